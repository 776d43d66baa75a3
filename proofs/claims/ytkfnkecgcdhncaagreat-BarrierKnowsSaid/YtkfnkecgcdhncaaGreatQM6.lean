/- Parts of the proof. No condition. -/
import Derived.Test.YtkfnkecgcdhncaaGreatQM0
import Derived.Test.YtkfnkecgcdhncaaGreatQM4
import Derived.Test.YtkfnkecgcdhncaaGreatQM5
namespace Go.Proofs.YtkfnkecgcdhncaaGreat
open Go.RowKit
set_option linter.unusedSimpArgs false
set_option linter.unusedVariables false
set_option maxRecDepth 20000
set_option maxHeartbeats 40000000
noncomputable def Qb(p0:Qc)(p1:Int):Option (Int×Qc) :=
 if (p0.l.length:Int)<=p0.pos then
 (some ((0,p0)))
 else
 (at_ p0.l (w64 ((w64 (p0.pos+1))-1))).bind λv3 =>
 (QaQ v3 p1).bind λv4 =>
 some ((v4,Qc.mk p0.l (w64 (p0.pos+1))))
theorem Qa{p0 p1 r}:Sm (Qb p0 p1) r->DCall Tryz.prog 36 [.ptr 0 0 0,DI p1] [(0,bO 2 [.sl (p0.l.map iC),DI p0.pos])] (DI r.1) [(0,bO 2 [.sl (r.2.l.map iC),DI r.2.pos])]:=by
 unfold Qb
 &mk0 Tryz.func36 ?_
 &ar ?_
 &sq λK k=>?_
 &ar ?_
 &xs (λh2=>?_) λh2=>?_
 &da ?_
 ~ft r1
 &db ?_
 &xa λv3 hv3=>?_
 &xd λv4 hv4=>?_
 have q0:=cS r0 (Qed hv4)
 &ar ?_
 ~ft r1
noncomputable def Qa1(p0:ByteArray)(p1:Int):Option (Cfg×Int) :=
 (Zr p1).bind λv1 =>
 if v1.2=0 then
 (if (p0.toList == (ByteArray.mk #[115,101,109,105,115,112,97,99,101]).toList)=true then
 (if p1<1 then
 (some ((Cfg.mk ⟨#[]⟩ ([]:List Rul) 0,6)))
 else
 some ((Cfg.mk p0 [Rul.mk 0 0 0 0] 1,0)))
 else
 if (p0.toList == (ByteArray.mk #[97,112,112,101,108]).toList)=true then
 (if p1<1 then
 (some ((Cfg.mk ⟨#[]⟩ ([]:List Rul) 0,6)))
 else
 some ((Cfg.mk p0 [Rul.mk 0 0 0 1,Rul.mk 0 0 0 1] 8,0)))
 else
 if (p0.toList == (ByteArray.mk #[102,105,120,101,100]).toList)=true then
 (if p1<1 then
 (some ((Cfg.mk ⟨#[]⟩ ([]:List Rul) 0,6)))
 else
 some ((Cfg.mk p0 [Rul.mk v1.1 1 0 1,Rul.mk 0 0 0 1] 8,0)))
 else
 if (p0.toList == (ByteArray.mk #[111,108,100,101,114,45,102,105,114,115,116]).toList)=true then
 (if p1<1 then
 (some ((Cfg.mk ⟨#[]⟩ ([]:List Rul) 0,6)))
 else
 some ((Cfg.mk p0 [Rul.mk v1.1 0 1 0] 0,0)))
 else
 if (p0.toList == (ByteArray.mk #[120,120]).toList)=true then
 (if p1<1 then
 (some ((Cfg.mk ⟨#[]⟩ ([]:List Rul) 0,6)))
 else
 some ((Cfg.mk p0 [Rul.mk v1.1 0 1 1,Rul.mk v1.1 0 1 1] 0,0)))
 else
 if (p0.toList == (ByteArray.mk #[120,120,49,48,48]).toList)=true then
 (if p1<1 then
 (some ((Cfg.mk ⟨#[]⟩ ([]:List Rul) 0,6)))
 else
 some ((Cfg.mk p0 [Rul.mk v1.1 0 1 1,Rul.mk v1.1 0 1 2,Rul.mk 0 0 0 2] 8,0)))
 else
 some ((Cfg.mk ⟨#[]⟩ ([]:List Rul) 0,7)))
 else
 if (p0.toList == (ByteArray.mk #[115,101,109,105,115,112,97,99,101]).toList)=true then
 (some ((Cfg.mk ⟨#[]⟩ ([]:List Rul) 0,6)))
 else
 if (p0.toList == (ByteArray.mk #[97,112,112,101,108]).toList)=true then
 (some ((Cfg.mk ⟨#[]⟩ ([]:List Rul) 0,6)))
 else
 if (p0.toList == (ByteArray.mk #[102,105,120,101,100]).toList)=true then
 (some ((Cfg.mk ⟨#[]⟩ ([]:List Rul) 0,6)))
 else
 if (p0.toList == (ByteArray.mk #[111,108,100,101,114,45,102,105,114,115,116]).toList)=true then
 (some ((Cfg.mk ⟨#[]⟩ ([]:List Rul) 0,6)))
 else
 if (p0.toList == (ByteArray.mk #[120,120]).toList)=true then
 (some ((Cfg.mk ⟨#[]⟩ ([]:List Rul) 0,6)))
 else
 if (p0.toList == (ByteArray.mk #[120,120,49,48,48]).toList)=true then
 (some ((Cfg.mk ⟨#[]⟩ ([]:List Rul) 0,6)))
 else
 some ((Cfg.mk ⟨#[]⟩ ([]:List Rul) 0,7))
theorem F_ref14_Get_ok{p0 p1 r}:Sm (Qa1 p0 p1) r->DCall Tryz.prog 41 [.lit (.string p0),DI p1] [] (.tup [.agg [.lit (.string r.1.name),.own 0 0 r.1.rules.length,DI r.1.full],DI r.2]) [(0,aO 4 (r.1.rules.map Rul.c))]:=by
 unfold Qa1
 &mk0 Tryz.func41 ?_
 &ar ?_
 &xd λv1 hv1=>?_
 have q0:=cS r0 (Qbl hv1)
 &ar ?_
 &xs (λh2=>?_) λh2=>?_
 &ar ?_
 &ar ?_
 &sq λK k=>?_
 &ar ?_
 &ar ?_
 &goA (QeX) ?_
 &au ?_
 &xs (λh4=>?_) λh4=>?_
 &da ?_
 &goA (Ql (c:=Rul.c) ([Rul.mk 0 0 0 0]:List Rul) i23.ok Qa8.ok) ?_
 &au ?_
 &sq λK k=>?_
 &ar ?_
 &xs (λh6=>?_) λh6=>?_
 &da ?_
 &xx (Qj 0 1 4 Od rfl rfl) ?_
 ~fwt [(0,3)]
 &db ?_
 ~fwt [(0,2)]
 &db ?_
 &goA (QeX) ?_
 &au ?_
 &xs (λh7=>?_) λh7=>?_
 &da ?_
 &goA (Ql (c:=Rul.c) ([Rul.mk 0 0 0 1,Rul.mk 0 0 0 1]:List Rul) i23.ok Qa8.ok) ?_
 &au ?_
 &sq λK k=>?_
 &ar ?_
 &xs (λh9=>?_) λh9=>?_
 &da ?_
 &xx (Qj 0 1 4 Od rfl rfl) ?_
 ~fwt [(0,3)]
 &db ?_
 ~fwt [(0,2)]
 &db ?_
 &goA (QeX) ?_
 &au ?_
 &xs (λh10=>?_) λh10=>?_
 &da ?_
 &goA (Ql (c:=Rul.c) ([Rul.mk v1.1 1 0 1,Rul.mk 0 0 0 1]:List Rul) i23.ok Qa8.ok) ?_
 &au ?_
 &sq λK k=>?_
 &ar ?_
 &xs (λh12=>?_) λh12=>?_
 &da ?_
 &xx (Qj 0 1 4 Od rfl rfl) ?_
 ~fwt [(0,3)]
 &db ?_
 ~fwt [(0,2)]
 &db ?_
 &goA (QeX) ?_
 &au ?_
 &xs (λh13=>?_) λh13=>?_
 &da ?_
 &goA (Ql (c:=Rul.c) ([Rul.mk v1.1 0 1 0]:List Rul) i23.ok Qa8.ok) ?_
 &au ?_
 &sq λK k=>?_
 &ar ?_
 &xs (λh15=>?_) λh15=>?_
 &da ?_
 &xx (Qj 0 1 4 Od rfl rfl) ?_
 ~fwt [(0,3)]
 &db ?_
 ~fwt [(0,2)]
 &db ?_
 &goA (QeX) ?_
 &au ?_
 &xs (λh16=>?_) λh16=>?_
 &da ?_
 &goA (Ql (c:=Rul.c) ([Rul.mk v1.1 0 1 1,Rul.mk v1.1 0 1 1]:List Rul) i23.ok Qa8.ok) ?_
 &au ?_
 &sq λK k=>?_
 &ar ?_
 &xs (λh18=>?_) λh18=>?_
 &da ?_
 &xx (Qj 0 1 4 Od rfl rfl) ?_
 ~fwt [(0,3)]
 &db ?_
 ~fwt [(0,2)]
 &db ?_
 &goA (QeX) ?_
 &au ?_
 &xs (λh19=>?_) λh19=>?_
 &da ?_
 &goA (Ql (c:=Rul.c) ([Rul.mk v1.1 0 1 1,Rul.mk v1.1 0 1 2,Rul.mk 0 0 0 2]:List Rul) i23.ok Qa8.ok) ?_
 &au ?_
 &sq λK k=>?_
 &ar ?_
 &xs (λh21=>?_) λh21=>?_
 &da ?_
 &xx (Qj 0 1 4 Od rfl rfl) ?_
 ~fwt [(0,3)]
 &db ?_
 ~fwt [(0,2)]
 &db ?_
 &xx (Qj 0 1 4 Od rfl rfl) ?_
 ~fwt [(0,2)]
 &ar ?_
 &ar ?_
 &sq λK k=>?_
 &ar ?_
 &ar ?_
 &goA (QeX) ?_
 &au ?_
 &xs (λh23=>?_) λh23=>?_
 &da ?_
 &goA (Ql (c:=Rul.c) ([Rul.mk 0 0 0 0]:List Rul) i23.ok Qa8.ok) ?_
 &au ?_
 &sq λK k=>?_
 &ar ?_
 &da ?_
 &xx (Qj 0 1 4 Od rfl rfl) ?_
 ~fwt [(0,3)]
 &db ?_
 &goA (QeX) ?_
 &au ?_
 &xs (λh25=>?_) λh25=>?_
 &da ?_
 &goA (Ql (c:=Rul.c) ([Rul.mk 0 0 0 1,Rul.mk 0 0 0 1]:List Rul) i23.ok Qa8.ok) ?_
 &au ?_
 &sq λK k=>?_
 &ar ?_
 &da ?_
 &xx (Qj 0 1 4 Od rfl rfl) ?_
 ~fwt [(0,3)]
 &db ?_
 &goA (QeX) ?_
 &au ?_
 &xs (λh27=>?_) λh27=>?_
 &da ?_
 &goA (Ql (c:=Rul.c) ([Rul.mk v1.1 1 0 1,Rul.mk 0 0 0 1]:List Rul) i23.ok Qa8.ok) ?_
 &au ?_
 &sq λK k=>?_
 &ar ?_
 &da ?_
 &xx (Qj 0 1 4 Od rfl rfl) ?_
 ~fwt [(0,3)]
 &db ?_
 &goA (QeX) ?_
 &au ?_
 &xs (λh29=>?_) λh29=>?_
 &da ?_
 &goA (Ql (c:=Rul.c) ([Rul.mk v1.1 0 1 0]:List Rul) i23.ok Qa8.ok) ?_
 &au ?_
 &sq λK k=>?_
 &ar ?_
 &da ?_
 &xx (Qj 0 1 4 Od rfl rfl) ?_
 ~fwt [(0,3)]
 &db ?_
 &goA (QeX) ?_
 &au ?_
 &xs (λh31=>?_) λh31=>?_
 &da ?_
 &goA (Ql (c:=Rul.c) ([Rul.mk v1.1 0 1 1,Rul.mk v1.1 0 1 1]:List Rul) i23.ok Qa8.ok) ?_
 &au ?_
 &sq λK k=>?_
 &ar ?_
 &da ?_
 &xx (Qj 0 1 4 Od rfl rfl) ?_
 ~fwt [(0,3)]
 &db ?_
 &goA (QeX) ?_
 &au ?_
 &xs (λh33=>?_) λh33=>?_
 &da ?_
 &goA (Ql (c:=Rul.c) ([Rul.mk v1.1 0 1 1,Rul.mk v1.1 0 1 2,Rul.mk 0 0 0 2]:List Rul) i23.ok Qa8.ok) ?_
 &au ?_
 &sq λK k=>?_
 &ar ?_
 &da ?_
 &xx (Qj 0 1 4 Od rfl rfl) ?_
 ~fwt [(0,3)]
 &db ?_
 &xx (Qj 0 1 4 Od rfl rfl) ?_
 ~fwt [(0,2)]
noncomputable def ZA(p0:Cfg):Option Int :=
 (Zz p0.name).bind λv2 =>
 if v2=true then
 (if (p0.rules.length:Int)<1 then
 (some (8))
 else
 if 4<(p0.rules.length:Int) then
 (some (8))
 else
 bndR (Qh (λ(s10:List Bool×Int) =>
 if s10.2<(p0.rules.length:Int) then
 ((at_ p0.rules s10.2).bind λv15 =>
 (X2 v15.share).bind λv17 =>
 if v17=true then
 (if v15.limit<0 then
 (some (.out (.inr (9))))
 else
 if 64<v15.limit then
 (some (.out (.inr (9))))
 else
 if v15.batch<0 then
 (some (.out (.inr (9))))
 else
 if 64<v15.batch then
 (some (.out (.inr (9))))
 else
 if s10.2=(w64 ((p0.rules.length:Int)-1)) then
 (if v15.limit=0 then
 (if v15.target=s10.2 then
 (some (.go ((s10.1,w64 (s10.2+1)))))
 else
 some (.out (.inr (10))))
 else
 some (.out (.inr (9))))
 else
 if v15.target<=s10.2 then
 (some (.out (.inr (10))))
 else
 if (p0.rules.length:Int)<=v15.target then
 (some (.out (.inr (10))))
 else
 if v15.target<4 then
 (at_ s10.1 v15.target).bind λv29 =>
 some (.go ((s10.1.set (Int.toNat v15.target) true,w64 (s10.2+1))))
 else none)
 else
 some (.out (.inr (6))))
 else
 some (.out (.inl (s10.1)))) ([true,false,false,false],0)) λ(b7:List Bool) =>
 bndR (Qh (λ(s33:Int) =>
 if s33<(p0.rules.length:Int) then
 (if s33<4 then
 (at_ b7 s33).bind λv39 =>
 if v39=true then
 (some (.go (w64 (s33+1))))
 else
 some (.out (.inr (10)))
 else none)
 else
 some (.out (.inl (())))) 0) λ(b30:Unit) =>
 (at_ p0.rules (w64 ((p0.rules.length:Int)-1))).bind λv42 =>
 if (QeY .eql v42.share 0)=true then
 (if p0.full<1 then
 (some (9))
 else
 if 64<p0.full then
 (some (9))
 else
 some (0))
 else
 if p0.full=0 then
 (some (0))
 else
 some (9))
 else
 some (7)
theorem QB{p0 r}:Sm (ZA p0) r->DCall Tryz.prog 61 [.agg [.lit (.string p0.name),.sl (p0.rules.map Rul.c),DI p0.full]] [] (DI r) []:=by
 unfold ZA
 &mk0 Tryz.func61 ?_
 &ar ?_
 &ar ?_
 &sq λK k=>?_
 &xd λv2 hv2=>?_
 have q0:=cS r0 (Qe8 hv2)
 &ar ?_
 &xs (λh3=>?_) λh3=>?_
 &cb ?_
 &sq λK k=>?_
 &xs (λh5=>?_) λh5=>?_
 &ar ?_
 &da ?_
 ~ft r0
 &ar ?_
 &xs (λh6=>?_) λh6=>?_
 &da ?_
 ~ft r0
 &db ?_
 &goA (m_bdX i172.ok i4.ok) ?_
 &au ?_
 &cU [3] [(1,λb7=>.ptr 0 0 0),(4,λb7=>.ptr 1 0 0)] [0] [] [(1,λb7=>⟨4,false,false,[b7.map DB]⟩)] 2 (λz8 hr8=>?_) λb7=>?_
 &ar ?_
 &lP [3,25,26] [(1,λs10=>.ptr 0 0 0),(4,λs10=>.ptr 1 0 0),(27,λs10=>DI s10.2)] [0] [] [(1,λs10=>⟨4,false,false,[s10.1.map DB]⟩)] 2 λs10 y11 hq11=>?_
 &ar ?_
 &sq λK k=>?_
 &xs (λh13=>?_) λh13=>?_
 &ca ?_
 &sq λK k=>?_
 &au ?_
 &xa λv15 hv15=>?_
 &ar ?_
 &ar ?_
 &sq λK k=>?_
 &au ?_
 &xd λv17 hv17=>?_
 replace q0:=cS r0 (Qcg hv17)
 &ar ?_
 &xs (λh18=>?_) λh18=>?_
 &cb ?_
 &xs (λh19=>?_) λh19=>?_
 &ar ?_
 &da ?_
 &xo hq11 ?_
 &xr hr8 ?_
 ~ft r0
 &xs (λh20=>?_) λh20=>?_
 &ar ?_
 &da ?_
 &xo hq11 ?_
 &xr hr8 ?_
 ~ft r0
 &xs (λh21=>?_) λh21=>?_
 &ar ?_
 &da ?_
 &xo hq11 ?_
 &xr hr8 ?_
 ~ft r0
 &xs (λh22=>?_) λh22=>?_
 &ar ?_
 &da ?_
 &xo hq11 ?_
 &xr hr8 ?_
 ~ft r0
 &xs (λh23=>?_) λh23=>?_
 &ar ?_
 &xs (λh24=>?_) λh24=>?_
 &cb ?_
 &xs (λh25=>?_) λh25=>?_
 &ar ?_
 &db ?_
 &db ?_
 ~wJ []
 &ar ?_
 &da ?_
 &xo hq11 ?_
 &xr hr8 ?_
 ~ft r0
 &da ?_
 &xo hq11 ?_
 &xr hr8 ?_
 ~ft r0
 &ar ?_
 &cb ?_
 &xs (λh26=>?_) λh26=>?_
 &ar ?_
 &da ?_
 &xo hq11 ?_
 &xr hr8 ?_
 ~ft r0
 &ar ?_
 &xs (λh27=>?_) λh27=>?_
 &da ?_
 &xo hq11 ?_
 &xr hr8 ?_
 ~ft r0
 &db ?_
 &ca ?_
 &xc λh28=>?_
 &xa λv29 hv29=>?_
 &ar ?_
 &goA (m_iaX hv29 h28 i172.ok i4.ok) ?_
 &goA (m_stX (c1:=DB) (xs:=s10.1) hv29 true i4.ok rfl) ?_
 &au ?_
 &ar ?_
 ~wJ []
 &da ?_
 &xo hq11 ?_
 &xr hr8 ?_
 ~ft r0
 &cb ?_
 &xo hq11 ?_
 ~wJ []
 &cU [1,3] [] [0] [] [] 1 (λz31 hr31=>?_) λb30=>?_
 &ar ?_
 &lP [1,3,4] [(8,λs33=>DI s33)] [0,1] [] [] 2 λs33 y34 hq34=>?_
 &sq λK k=>?_
 &ar ?_
 &xs (λh36=>?_) λh36=>?_
 &ca ?_
 &sq λK k=>?_
 &au ?_
 &xc λh38=>?_
 &xa λv39 hv39=>?_
 &ar ?_
 &goA (m_iaX hv39 h38 i172.ok i4.ok) ?_
 &goA (m_ldX (c1:=DB) hv39 i4.ok rfl) ?_
 &au ?_
 &xs (λh40=>?_) λh40=>?_
 &db ?_
 ~wJ []
 &da ?_
 &xo hq34 ?_
 &xr hr31 ?_
 ~ft r0
 &cb ?_
 &xo hq34 ?_
 ~wJ []
 &sq λK k=>?_
 &xa λv42 hv42=>?_
 &ar ?_
 &goA (QeW (.inl rfl)) ?_
 &au ?_
 &xs (λh43=>?_) λh43=>?_
 &xs (λh44=>?_) λh44=>?_
 &ar ?_
 &da ?_
 ~ft r0
 &xs (λh45=>?_) λh45=>?_
 &ar ?_
 &da ?_
 ~ft r0
 &ar ?_
 &db ?_
 ~ft r0
 &ar ?_
 &xs (λh46=>?_) λh46=>?_
 &db ?_
 ~ft r0
 &da ?_
 ~ft r0
 &da ?_
 ~ft r0
noncomputable def Qag(p0:Int)(p1:Int):Option (Sp×Int) :=
 (ZC p0).bind λv2 =>
 if v2=true then
 (if p1<2 then
 (some ((Sp.mk 0 ([]:List Int) ([]:List Fe),1)))
 else
 if 64<p1 then
 (some ((Sp.mk 0 ([]:List Int) ([]:List Fe),1)))
 else
 if 0<=wu p0 then
 if 0<=Qa9 .i64 p1 (wu p0)/\(Qa9 .i64 p1 (wu p0))*8<=281474976710656/\Qa9 .i64 p1 (wu p0)<=9223372036854775807 then
 if 0<=p1/\p1*24<=281474976710656/\p1<=9223372036854775807 then
 (Qh (λ(s12:List Fe×Int) =>
 if s12.2<((List.replicate (Int.toNat p1) (Fe.mk 0 0 0)).length:Int) then
 ((at_ s12.1 s12.2).bind λv17 =>
 some (.go ((s12.1.set (Int.toNat s12.2) (Fe.mk (-1) (-1) (-1)),w64 (s12.2+1)))))
 else
 some (.out (s12.1))) (List.replicate (Int.toNat p1) (Fe.mk 0 0 0),0)).bind λ(b9:List Fe) =>
 some ((Sp.mk p0 (List.replicate (Int.toNat (Qa9 .i64 p1 (wu p0))) (0:Int)) b9,0))
 else none
 else none
 else none)
 else
 some ((Sp.mk 0 ([]:List Int) ([]:List Fe),1))
theorem Qdj{p0 p1 r}:Sm (Qag p0 p1) r->DCall Tryz.prog 26 [DI p0,DI p1] [] (.tup [.agg [DI r.1.sh,.own 0 0 r.1.ws.length,.own 1 0 r.1.fs.length],DI r.2]) [(0,aO 1 (r.1.ws.map uC)),(1,aO 3 (r.1.fs.map frC))]:=by
 unfold Qag
 &mk0 Tryz.func26 ?_
 &ar ?_
 &sq λK k=>?_
 &xd λv2 hv2=>?_
 &xs (λh3=>?_) λh3=>?_
 &xs (λh4=>?_) λh4=>?_
 have q0:=cS r0 (Jj hv2)
 &ar ?_
 &da ?_
 &xx (Qj 0 1 1 Od rfl rfl) ?_
 &xx (Qj 0 2 3 Od rfl rfl) ?_
 ~fwt [(0,1),(1,2)]
 have q0:=cS r0 (Jj hv2)
 &ar ?_
 &xs (λh5=>?_) λh5=>?_
 &da ?_
 &xx (Qj 0 1 1 Od rfl rfl) ?_
 &xx (Qj 0 2 3 Od rfl rfl) ?_
 ~fwt [(0,1),(1,2)]
 &cb ?_
 &xc λh6=>?_
 &xc λh7=>?_
 &xc λh8=>?_
 &ar ?_
 &goA (m_mkE (c:=uC) 0 h7 i26.ok i61.ok) ?_
 &au ?_
 &goA (m_mkE (c:=frC) (Fe.mk 0 0 0) h8 i27.ok i66.ok) ?_
 &au ?_
 &cT [] [(4,λb9=>.ptr 0 0 0),(6,λb9=>.ptr 3 0 0)] [0,1] [] [(2,λb9=>aO 3 (b9.map frC)),(3,λb9=>bO 3 [DI p0,.own 1 0 (List.replicate (Int.toNat (Qa9 .i64 p1 (wu p0))) (0:Int)).length,.own 2 0 b9.length])] 4 (λz10=>?_) λb9=>?_
 &ar ?_
 &lP [31] [(4,λs12=>.ptr 0 0 0),(6,λs12=>.ptr 3 0 0),(32,λs12=>DI s12.2)] [0,1] [] [(2,λs12=>aO 3 (s12.1.map frC)),(3,λs12=>bO 3 [DI p0,.own 1 0 (List.replicate (Int.toNat (Qa9 .i64 p1 (wu p0))) (0:Int)).length,.own 2 0 s12.1.length])] 4 λs12 y13 hq13=>?_
 &ar ?_
 &sq λK k=>?_
 &xs (λh15=>?_) λh15=>?_
 &ca ?_
 &sq λK k=>?_
 &ar ?_
 &xa λv17 hv17=>?_
 &ar ?_
 &goA (Xr (c:=frC) hv17.h (Fe.mk (-1) (-1) (-1)) i66.ok) ?_
 &au ?_
 &ar ?_
 ~wJ []
 &cb ?_
 &xo hq13 ?_
 ~wJ []
 &ar ?_
 ~fwt [(0,1),(1,2)]
 have q0:=cS r0 (Jj hv2)
 &ar ?_
 &da ?_
 &xx (Qj 0 1 1 Od rfl rfl) ?_
 &xx (Qj 0 2 3 Od rfl rfl) ?_
 ~fwt [(0,1),(1,2)]
noncomputable def Jq(p0:Hp):Option Bool :=
 (ZX p0.roots).bind λv1 =>
 some (decide ((v1.length:Int)=32))
theorem QcG{p0 r}:Sm (Jq p0) r->DCall Tryz.prog 106 [.agg [.lit (.string p0.config.name),.sl (p0.config.rules.map Rul.c),DI p0.config.full,DI p0.space.sh,.sl (p0.space.ws.map uC),.sl (p0.space.fs.map frC),.sl (p0.belts.map (lC Inc.c)),DI p0.seq,.sl (p0.sets.map Qe.c),.sl (p0.roots.used.map bC),.sl (p0.roots.refs.map uC),DI p0.since,DI p0.stats.allocated,DI p0.stats.objects,DI p0.stats.collections,DI p0.stats.steps,DI p0.stats.rounds,DI p0.stats.condemned,DI p0.stats.copied,DI p0.stats.entries,DI p0.stats.work,DB p0.dead]] [] (DB r) []:=by
 unfold Jq
 &mk0 Tryz.func106 ?_
 &ar ?_
 &xd λv1 hv1=>?_
 have q0:=cS r0 (JP hv1)
 &ar ?_
 ~ft r0
noncomputable def JA(p0:Sp):Option Sp :=
 (JU p0.ws).bind λv1 =>
 if (p0.fs.length:Int)*24<=140737488355328/\(p0.fs.length:Int)<=9223372036854775807 then
 some (Sp.mk p0.sh v1 p0.fs)
 else none
theorem QcN{p0 r}:Sm (JA p0) r->DCall Tryz.prog 111 [.agg [DI p0.sh,.sl (p0.ws.map uC),.sl (p0.fs.map frC)]] [] (.agg [DI r.sh,.own 0 0 r.ws.length,.own 1 0 r.fs.length]) [(0,aO 1 (r.ws.map uC)),(1,aO 3 (r.fs.map frC))]:=by
 unfold JA
 &mk0 Tryz.func111 ?_
 &ar ?_
 &xd λv1 hv1=>?_
 &xc λh2=>?_
 have q0:=cS r0 (Qfa hv1)
 &ar ?_
 &goA (QbU (c:=frC) p0.fs h2 i27.ok i66.ok rfl (.sl rfl (Qg (c:=frC) (λ_=>rfl) _))) ?_
 &au ?_
 ~fw [(0,2),(1,3)]
noncomputable def Xo(p0:Nat)(p1:Int):Option (Int×Int) :=
 (X2 p0).bind λv2 =>
 if v2=true then
 (if p1<1 then
 (some ((0,1)))
 else
 if 64<p1 then
 (some ((0,1)))
 else
 if (QeY .eql p0 0)=true then
 (some ((0,0)))
 else
 if 0<(w64 (bits .and .u64 (QbO .u64 ((p0:Nat):Int) 52) 2047)) then
 (if (w64 (1075-(w64 (bits .and .u64 (QbO .u64 ((p0:Nat):Int) 52) 2047))))<64 then
 (if 0<=wu (w64 (1075-(w64 (bits .and .u64 (QbO .u64 ((p0:Nat):Int) 52) 2047)))) then
 some ((max 1 (w64 (QbO .u64 (wu ((bits .or .u64 (bits .and .u64 ((p0:Nat):Int) 4503599627370495) 4503599627370496)*(wu p1))) (wu (w64 (1075-(w64 (bits .and .u64 (QbO .u64 ((p0:Nat):Int) 52) 2047))))))),0))
 else none)
 else
 some ((max 1 (w64 0),0)))
 else
 if (1074:Int)<64 then
 (if 0<=wu 1074 then
 some ((max 1 (w64 (QbO .u64 (wu ((bits .and .u64 ((p0:Nat):Int) 4503599627370495)*(wu p1))) (wu 1074))),0))
 else none)
 else
 some ((max 1 (w64 0),0)))
 else
 some ((0,6))
theorem QeG{p0 p1 r}:Sm (Xo p0 p1) r->DCall Tryz.prog 170 [.lit (.float .f64 p0),DI p1] [] (.tup [DI r.1,DI r.2]) []:=by
 unfold Xo
 &mk0 Tryz.func170 ?_
 &ar ?_
 &sq λK k=>?_
 &xd λv2 hv2=>?_
 have q0:=cS r0 (Qcg hv2)
 &ar ?_
 &xs (λh3=>?_) λh3=>?_
 &cb ?_
 &sq λK k=>?_
 &xs (λh5=>?_) λh5=>?_
 &ar ?_
 &da ?_
 ~ftt r0
 &ar ?_
 &xs (λh6=>?_) λh6=>?_
 &da ?_
 ~ftt r0
 &cb ?_
 &sq λK k=>?_
 &ar ?_
 &goA (QeW (.inl rfl)) ?_
 &au ?_
 &xs (λh8=>?_) λh8=>?_
 &da ?_
 ~ftt r0
 &db ?_
 &goA (m_ext1 (u:=.float .f64 p0) (v:=.int .u64 ((p0:Nat):Int)) (λ_=>by rw [run_callFunc_extern Tryz.func135 Ok Ok Ok (e:=Extern.MathFloatBits.float64bits) Ok];rfl) rfl) ?_
 &au ?_
 &ar ?_
 &ar ?_
 &sq λK k=>?_
 &ar ?_
 &xs (λh10=>?_) λh10=>?_
 &da ?_
 &ar ?_
 &ar ?_
 &sq λK k=>?_
 &ar ?_
 &xs (λh12=>?_) λh12=>?_
 &ca ?_
 &xc λh13=>?_
 &ar ?_
 &ar ?_
 &goA (m_max) ?_
 &au ?_
 ~ftt r0
 &db ?_
 &goA (m_max) ?_
 &au ?_
 ~ftt r0
 &db ?_
 &sq λK k=>?_
 &ar ?_
 &xs (λh15=>?_) λh15=>?_
 &ca ?_
 &xc λh16=>?_
 &ar ?_
 &ar ?_
 &goA (m_max) ?_
 &au ?_
 ~ftt r0
 &db ?_
 &goA (m_max) ?_
 &au ?_
 ~ftt r0
 &da ?_
 ~ftt r0
noncomputable def Qat(p0:Sp):Option Int :=
 (ZC p0.sh).bind λv2 =>
 if v2=true then
 (if 0<=wu p0.sh then
 some (Qa9 .i64 1 (wu p0.sh))
 else none)
 else
 some (0)
theorem QgF{p0 r}:Sm (Qat p0) r->DCall Tryz.prog 171 [.agg [DI p0.sh,.sl (p0.ws.map uC),.sl (p0.fs.map frC)]] [] (DI r) []:=by
 unfold Qat
 &mk0 Tryz.func171 ?_
 &ar ?_
 &sq λK k=>?_
 &xd λv2 hv2=>?_
 have q0:=cS r0 (Jj hv2)
 &ar ?_
 &xs (λh3=>?_) λh3=>?_
 &cb ?_
 &xc λh4=>?_
 &ar ?_
 ~ft r0
 &da ?_
 ~ft r0
noncomputable def QN(p0:Sp)(p1:Inc):Option Int :=
 (JB p1.words p0.sh).bind λv1 =>
 some (v1)
theorem Zo{p0 p1 r}:Sm (QN p0 p1) r->DCall Tryz.prog 174 [.agg [DI p0.sh,.sl (p0.ws.map uC),.sl (p0.fs.map frC)],.agg [DI p1.seq,DI p1.belt,DI p1.first,DI p1.last,DI p1.words]] [] (DI r) []:=by
 unfold QN
 &mk0 Tryz.func174 ?_
 &ar ?_
 &xd λv1 hv1=>?_
 have q0:=cS r0 (QcO hv1)
 &ar ?_
 ~ft r0
noncomputable def Qas(p0:Sp):Option Int :=
 (ZB p0).bind λv1 =>
 some (w64 ((p0.fs.length:Int)-(v1.length:Int)))
theorem QgD{p0 r}:Sm (Qas p0) r->DCall Tryz.prog 172 [.agg [DI p0.sh,.sl (p0.ws.map uC),.sl (p0.fs.map frC)]] [] (DI r) []:=by
 unfold Qas
 &mk0 Tryz.func172 ?_
 &ar ?_
 &xd λv1 hv1=>?_
 have q0:=cS r0 (XR hv1)
 &ar ?_
 ~ft r0
noncomputable def Jd(p0:List (List Inc))(p1:List Int):Option Bool :=
 (Qad p0).bind λv1 =>
 if (v1.length:Int)<(p1.length:Int) then
 (some (false))
 else
 bndR (Qh (λ(s7:Int) =>
 if s7<(p1.length:Int) then
 (bndR ((at_ p1 s7).bind λv13 =>
 bndR (Qh (λ(s17:Int) =>
 if s17<s7 then
 ((at_ p1 s17).bind λv22 =>
 if v22=v13 then
 (some (.out (.inr (.inr (.out (.inr (false)))))))
 else
 some (.go (w64 (s17+1))))
 else
 some (.out (.inl (())))) 0) λ(b14:Unit) =>
 (if (0:Int)<=0/\0<=(p1.length:Int)/\(p1.length:Int)<=v1.length then
 Qh (λ(s28:Bool×Int) =>
 if s28.2<(((v1.take (Int.toNat (p1.length:Int))).drop (Int.toNat 0)).length:Int) then
 ((at_ ((v1.take (Int.toNat (p1.length:Int))).drop (Int.toNat 0)) s28.2).bind λv33 =>
 if s28.1=true then
 (some (.go ((true,w64 (s28.2+1)))))
 else
 some (.go ((decide (v33.seq=v13),w64 (s28.2+1)))))
 else
 some (.out (s28.1))) (false,0)
 else none).bind λ(b24:Bool) =>
 if b24=true then
 (some (.inl (())))
 else
 some (.inr (.out (.inr (false))))) λ(b11:Unit) =>
 some (.go (w64 (s7+1))))
 else
 some (.out (.inl (())))) 0) λ(b4:Unit) =>
 bndR (if (0:Int)<=0/\0<=(p1.length:Int)/\(p1.length:Int)<=v1.length then
 Qh (λ(s40:Int) =>
 if s40<(((v1.take (Int.toNat (p1.length:Int))).drop (Int.toNat 0)).length:Int) then
 (bndR ((at_ ((v1.take (Int.toNat (p1.length:Int))).drop (Int.toNat 0)) s40).bind λv46 =>
 (Qh (λ(s50:Bool×Int) =>
 if s50.2<(p1.length:Int) then
 ((at_ p1 s50.2).bind λv55 =>
 if s50.1=true then
 (some (.go ((true,w64 (s50.2+1)))))
 else
 some (.go ((decide (v46.seq=v55),w64 (s50.2+1)))))
 else
 some (.out (s50.1))) (false,0)).bind λ(b47:Bool) =>
 if b47=true then
 (some (.inl (())))
 else
 some (.inr (.out (.inr (false))))) λ(b44:Unit) =>
 some (.go (w64 (s40+1))))
 else
 some (.out (.inl (())))) 0
 else none) λ(b36:Unit) =>
 some (true)
theorem QeF{p0 p1 r}:Sm (Jd p0 p1) r->DCall Tryz.prog 185 [.sl (p0.map (lC Inc.c)),.sl (p1.map iC)] [] (DB r) []:=by
 unfold Jd
 &mk0 Tryz.func185 ?_
 &ar ?_
 &xd λv1 hv1=>?_
 have q0:=cG r0 (QgB hv1)
 &ar ?_
 &sq λK k=>?_
 &ar ?_
 &xs (λh3=>?_) λh3=>?_
 &da ?_
 ~ft r0
 &cb ?_
 &cU [1,5] [] [] [] [] 0 (λz5 hr5=>?_) λb4=>?_
 &ar ?_
 &lP [1,5,24,25] [(26,λs7=>DI s7)] [] [] [] 0 λs7 y8 hq8=>?_
 &ar ?_
 &sq λK k=>?_
 &xs (λh10=>?_) λh10=>?_
 &ca ?_
 &cU [1,5,24,25,26] [] [] [] [] 0 (λz12 hr12=>?_) λb11=>?_
 &au ?_
 &xa λv13 hv13=>?_
 &ar ?_
 &cU [1,5,7,24,25,26] [] [] [] [] 0 (λz15 hr15=>?_) λb14=>?_
 &ar ?_
 &lP [1,5,6,7,24,25,26] [(8,λs17=>DI s17)] [] [] [] 0 λs17 y18 hq18=>?_
 &sq λK k=>?_
 &ar ?_
 &xs (λh20=>?_) λh20=>?_
 &ca ?_
 &sq λK k=>?_
 &au ?_
 &xa λv22 hv22=>?_
 &ar ?_
 &xs (λh23=>?_) λh23=>?_
 &da ?_
 &xo hq18 ?_
 &xr hr15 ?_
 &xr hr12 ?_
 &xo hq8 ?_
 &xr hr5 ?_
 ~ft r0
 &db ?_
 ~wJ []
 &cb ?_
 &xo hq18 ?_
 ~wJ []
 &ar ?_
 &cT [1,5,24,25,26] [(9,λb24=>DB b24)] [] [] [] 0 (λz25=>?_) λb24=>?_
 &xc λh26=>?_
 &ar ?_
 &goA (m_slS (a:=0) (b:=(p1.length:Int)) h26 i52.ok i56.ok (.inl ⟨rfl,rfl⟩) (.inr ⟨_,_,rfl,rfl⟩)) ?_
 &au ?_
 &lP [1,5,7,24,25,26,45,46] [(9,λs28=>DB s28.1),(47,λs28=>DI s28.2)] [] [] [] 0 λs28 y29 hq29=>?_
 &ar ?_
 &sq λK k=>?_
 &xs (λh31=>?_) λh31=>?_
 &ca ?_
 &sq λK k=>?_
 &au ?_
 &xa λv33 hv33=>?_
 &ar ?_
 &xs (λh34=>?_) λh34=>?_
 &ar ?_
 &ar ?_
 ~wJ []
 &ar ?_
 &ar ?_
 ~wJ []
 &cb ?_
 &xo hq29 ?_
 ~wJ []
 &ar ?_
 &xs (λh35=>?_) λh35=>?_
 &cb ?_
 ~wJ []
 &da ?_
 &xr hr12 ?_
 &xo hq8 ?_
 &xr hr5 ?_
 ~ft r0
 &ar ?_
 ~wJ []
 &cb ?_
 &xo hq8 ?_
 ~wJ []
 &cU [] [] [] [] [] 0 (λz37 hr37=>?_) λb36=>?_
 &xc λh38=>?_
 &ar ?_
 &goA (m_slS (a:=0) (b:=(p1.length:Int)) h38 i52.ok i56.ok (.inl ⟨rfl,rfl⟩) (.inr ⟨_,_,rfl,rfl⟩)) ?_
 &au ?_
 &lP [1,65,66] [(67,λs40=>DI s40)] [] [] [] 0 λs40 y41 hq41=>?_
 &ar ?_
 &sq λK k=>?_
 &xs (λh43=>?_) λh43=>?_
 &ca ?_
 &cU [1,65,66,67] [] [] [] [] 0 (λz45 hr45=>?_) λb44=>?_
 &au ?_
 &xa λv46 hv46=>?_
 &ar ?_
 &ar ?_
 &cT [1,65,66,67] [(14,λb47=>DB b47)] [] [] [] 0 (λz48=>?_) λb47=>?_
 &ar ?_
 &lP [1,65,66,67,71,72] [(13,λs50=>.ptr 0 0 0),(14,λs50=>DB s50.1),(73,λs50=>DI s50.2)] [0] [] [] 1 λs50 y51 hq51=>?_
 &ar ?_
 &sq λK k=>?_
 &xs (λh53=>?_) λh53=>?_
 &ca ?_
 &sq λK k=>?_
 &au ?_
 &xa λv55 hv55=>?_
 &ar ?_
 &xs (λh56=>?_) λh56=>?_
 &ar ?_
 &ar ?_
 ~wJ []
 &ar ?_
 &ar ?_
 ~wJ []
 &cb ?_
 &xo hq51 ?_
 ~wJ []
 &ar ?_
 &xs (λh57=>?_) λh57=>?_
 &cb ?_
 ~wJ []
 &da ?_
 &xr hr45 ?_
 &xo hq41 ?_
 &xr hr37 ?_
 ~ft r0
 &ar ?_
 ~wJ []
 &cb ?_
 &xo hq41 ?_
 ~wJ []
 &ar ?_
 ~ft r0
noncomputable def ZS(p0:Sp)(p1:Rts)(p2:List Inc):Option (List Int) :=
 ((ZX p1).bind λv3 =>
 Qh (λ(s6:List Int×Int) =>
 if s6.2<(v3.length:Int) then
 ((at_ v3 s6.2).bind λv11 =>
 (at_ p1.refs (w64 (v11-1))).bind λv12 =>
 (ZH p0 p2 v12).bind λv13 =>
 if v13=true then
 (if ((s6.1.length:Int)+[v11].length)*8<=140737488355328/\(s6.1.length:Int)+[v11].length<=9223372036854775807 then
 some (.go ((s6.1++[v11],w64 (s6.2+1))))
 else none)
 else
 some (.go ((s6.1,w64 (s6.2+1)))))
 else
 some (.out (s6.1))) (([]:List Int),0)).bind λ(b1:List Int) =>
 some (b1)
theorem Qbj{p0 p1 p2 r}:Sm (ZS p0 p1 p2) r->DCall Tryz.prog 177 [.agg [DI p0.sh,.sl (p0.ws.map uC),.sl (p0.fs.map frC)],.agg [.sl (p1.used.map bC),.sl (p1.refs.map uC)],.sl (p2.map Inc.c)] [] (.own 0 0 r.length) [(0,aO 1 (r.map iC))]:=by
 unfold ZS
 &mk0 Tryz.func177 ?_
 &ar ?_
 &ar ?_
 &cT [] [(7,λb1=>.own 2 0 b1.length)] [] [] [(2,λb1=>aO 1 (b1.map iC))] 3 (λz2=>?_) λb1=>?_
 &xd λv3 hv3=>?_
 have q0:=cS r0 (JP hv3)
 &ar ?_
 &xx (Qz 7 1 Od rfl) ?_
 &lP [2,12] [(3,λs6=>.ptr 0 0 0),(4,λs6=>.ptr 1 0 0),(7,λs6=>.own 3 0 s6.1.length),(11,λs6=>.own 2 0 v3.length),(13,λs6=>DI s6.2)] [0,1,2] [] [(3,λs6=>aO 1 (s6.1.map iC))] 4 λs6 y7 hq7=>?_
 &ar ?_
 &sq λK k=>?_
 &xs (λh9=>?_) λh9=>?_
 &ca ?_
 &sq λK k=>?_
 &au ?_
 &xa λv11 hv11=>?_
 &ar ?_
 &xa λv12 hv12=>?_
 &xd λv13 hv13=>?_
 replace q0:=cS r0 (Qab hv13)
 &ar ?_
 &xs (λh14=>?_) λh14=>?_
 &ca ?_
 &xc λh15=>?_
 &ar ?_
 &goA (Ql (c:=iC) ([v11]:List Int) i22.ok i3.ok) ?_
 &goA (QW (c:=iC) s6.1 [v11] h15 i22.ok i3.ok rfl rfl (.own rfl rfl Os (Qg (c:=iC) (λ_=>rfl) _)) rfl) ?_
 &au ?_
 &ar ?_
 ~wJ [(3,5)]
 &db ?_
 ~wJ []
 &cb ?_
 &xo hq7 ?_
 ~wJ [(2,3)]
 &ar ?_
 ~ft [(0,2)]
noncomputable def Qar(p0:List Qe)(p1:List Int):Option (List Int×Int) :=
 (Qh (λ(s4:List Int×Int×Int) =>
 if s4.2.2<(p0.length:Int) then
 (((at_ p0 s4.2.2).bind λv10 =>
 (Jt p1 v10.to).bind λv11 =>
 if v11=true then
 ((Jt p1 v10.frm).bind λv13 =>
 if v13=true then
 (some ((s4.1,s4.2.1)))
 else
 Qh (λ(s16:List Int×Int) =>
 if s16.2<(v10.slots.length:Int) then
 ((at_ v10.slots s16.2).bind λv21 =>
 (Js s16.1 v21).bind λv22 =>
 some (.go ((v22,w64 (s16.2+1)))))
 else
 some (.out ((s16.1,w64 (s4.2.1+(v10.slots.length:Int)))))) (s4.1,0))
 else
 some ((s4.1,s4.2.1))).bind λ(b8:List Int×Int) =>
 some (.go ((b8.1,b8.2,w64 (s4.2.2+1)))))
 else
 some (.out ((s4.1,s4.2.1)))) ([],0,0)).bind λ(b1:List Int×Int) =>
 some ((b1.1,b1.2))
theorem Qgz{p0 p1 r}:Sm (Qar p0 p1) r->DCall Tryz.prog 187 [.sl (p0.map Qe.c),.sl (p1.map iC)] [] (.tup [.sl (r.1.map iC),DI r.2]) []:=by
 unfold Qar
 &mk0 Tryz.func187 ?_
 &ar ?_
 &ar ?_
 &ar ?_
 &cT [] [(6,λb1=>.sl (b1.1.map iC)),(7,λb1=>DI b1.2)] [] [] [] 0 (λz2=>?_) λb1=>?_
 &ar ?_
 &lP [1,12,13] [(6,λs4=>.sl (s4.1.map iC)),(7,λs4=>DI s4.2.1),(14,λs4=>DI s4.2.2)] [] [] [] 0 λs4 y5 hq5=>?_
 &ar ?_
 &sq λK k=>?_
 &xs (λh7=>?_) λh7=>?_
 &ca ?_
 &cT [1,12,13,14] [(6,λb8=>.sl (b8.1.map iC)),(7,λb8=>DI b8.2)] [] [] [] 0 (λz9=>?_) λb8=>?_
 &au ?_
 &xa λv10 hv10=>?_
 &ar ?_
 &xd λv11 hv11=>?_
 &xs (λh12=>?_) λh12=>?_
 &xd λv13 hv13=>?_
 &ar ?_
 &goA (Jn r0 (X1 hv11) rfl ScS.nil) ?_
 &au ?_
 &go (Jn r0 (X1 hv13) rfl ScS.nil) ?_ (gY h12)
 &au ?_
 &xs (λh14=>?_) λh14=>?_
 &cb ?_
 ~wJ []
 &da ?_
 &ar ?_
 &lP [1,7,12,13,14,35,36] [(6,λs16=>.sl (s16.1.map iC)),(37,λs16=>DI s16.2)] [] [] [] 0 λs16 y17 hq17=>?_
 &ar ?_
 &sq λK k=>?_
 &xs (λh19=>?_) λh19=>?_
 &ca ?_
 &sq λK k=>?_
 &au ?_
 &xa λv21 hv21=>?_
 &ar ?_
 &xd λv22 hv22=>?_
 have q0:=cG r0 (QcI hv22)
 &ar ?_
 &ar ?_
 ~wJ []
 &cb ?_
 &xo hq17 ?_
 ~wJ []
 have q0:=cS r0 (X1 hv11)
 &ar ?_
 &cb ?_
 ~wJ []
 &ar ?_
 ~wJ []
 &cb ?_
 &xo hq5 ?_
 ~wJ []
 &ar ?_
 ~ftt r0
noncomputable def Zl(p0:Sp)(p1:Int):Option (Int×Int×Int) :=
 (QM p0 p1 0).bind λv2 =>
 if v2.2=0 then
 ((at_ p0.ws p1).bind λv4 =>
 (Xn v4).bind λv5 =>
 if v5.2.2.2.2=0 then
 (if v5.2.2.2.1=true then
 (some ((0,0,12)))
 else
 (QM p0 p1 (w64 (v5.1+v5.2.1))).bind λv10 =>
 if v10.2=0 then
 (some ((v5.1,v5.2.1,0)))
 else
 some ((0,0,2)))
 else
 some ((0,0,12)))
 else
 some ((0,0,v2.2))
theorem XO{p0 p1 r}:Sm (Zl p0 p1) r->DCall Tryz.prog 28 [.agg [DI p0.sh,.sl (p0.ws.map uC),.sl (p0.fs.map frC)],DI p1] [] (.tup [DI r.1,DI r.2.1,DI r.2.2]) []:=by
 unfold Zl
 &mk0 Tryz.func28 ?_
 &ar ?_
 &sq λK k=>?_
 &xd λv2 hv2=>?_
 have q0:=cS r0 (QP hv2)
 &ar ?_
 &ar ?_
 &xs (λh3=>?_) λh3=>?_
 &cb ?_
 &xa λv4 hv4=>?_
 &xd λv5 hv5=>?_
 replace q0:=cS r0 (QbJ hv5)
 &ar ?_
 &sq λK k=>?_
 &xs (λh7=>?_) λh7=>?_
 &ar ?_
 &xs (λh8=>?_) λh8=>?_
 &da ?_
 ~fttt r0
 &cb ?_
 &sq λK k=>?_
 &xd λv10 hv10=>?_
 replace q0:=cS r0 (QP hv10)
 &ar ?_
 &ar ?_
 &xs (λh11=>?_) λh11=>?_
 &db ?_
 ~fttt r0
 &da ?_
 ~fttt r0
 &ar ?_
 &da ?_
 ~fttt r0
 &da ?_
 ~fttt r0
noncomputable def Ju(p0:List Qe)(p1:List Int):Option (List Qe) :=
 ((ZZ p0).bind λv3 =>
 Qh (λ(s6:List Qe×Int) =>
 if s6.2<(v3.length:Int) then
 ((at_ v3 s6.2).bind λv11 =>
 (Jt p1 v11.frm).bind λv12 =>
 if v12=true then
 (some (.go ((s6.1,w64 (s6.2+1)))))
 else
 (Jt p1 v11.to).bind λv14 =>
 if v14=true then
 (some (.go ((s6.1,w64 (s6.2+1)))))
 else
 if ((s6.1.length:Int)+[v11].length)*40<=140737488355328/\(s6.1.length:Int)+[v11].length<=9223372036854775807 then
 some (.go ((s6.1++[v11],w64 (s6.2+1))))
 else none)
 else
 some (.out (s6.1))) (([]:List Qe),0)).bind λ(b1:List Qe) =>
 some (b1)
theorem QgA{p0 p1 r}:Sm (Ju p0 p1) r->DCall Tryz.prog 190 [.sl (p0.map Qe.c),.sl (p1.map iC)] [] (.own 0 0 r.length) [(0,aO 3 (r.map Qe.c))]:=by
 unfold Ju
 &mk0 Tryz.func190 ?_
 &ar ?_
 &ar ?_
 &cT [] [(5,λb1=>.own 0 0 b1.length)] [] [] [(0,λb1=>aO 3 (b1.map Qe.c))] 1 (λz2=>?_) λb1=>?_
 &xd λv3 hv3=>?_
 have q0:=cG r0 (JR hv3)
 &ar ?_
 &xx (Qz 5 3 Od rfl) ?_
 &lP [1,10] [(5,λs6=>.own 1 0 s6.1.length),(9,λs6=>.own 0 0 v3.length),(11,λs6=>DI s6.2)] [0] [] [(1,λs6=>aO 3 (s6.1.map Qe.c))] 2 λs6 y7 hq7=>?_
 &ar ?_
 &sq λK k=>?_
 &xs (λh9=>?_) λh9=>?_
 &ca ?_
 &sq λK k=>?_
 &au ?_
 &xa λv11 hv11=>?_
 &ar ?_
 &xd λv12 hv12=>?_
 &xs (λh13=>?_) λh13=>?_
 replace q0:=cS r0 (X1 hv12)
 &ar ?_
 &db ?_
 ~wJ []
 &xd λv14 hv14=>?_
 &ar ?_
 &goA (Jn r0 (X1 hv12) rfl ScS.nil) ?_
 &au ?_
 &go (Jn r0 (X1 hv14) rfl ScS.nil) ?_ (gY (congrArg not (eq_false_of_ne_true h13)))
 &au ?_
 &xs (λh15=>?_) λh15=>?_
 &db ?_
 ~wJ []
 &ca ?_
 &xc λh16=>?_
 &ar ?_
 &goA (Ql (c:=Qe.c) ([v11]:List Qe) i31.ok i81.ok) ?_
 &goA (QW (c:=Qe.c) s6.1 [v11] h16 i31.ok i81.ok rfl rfl (.own rfl rfl Os (Qg (c:=Qe.c) (λ_=>rfl) _)) rfl) ?_
 &au ?_
 &ar ?_
 ~wJ [(1,4)]
 &cb ?_
 &xo hq7 ?_
 ~wJ [(0,1)]
 &ar ?_
 ~ft r1
noncomputable def Qac(p0:List Qe)(p1:Int)(p2:Int)(p3:Int):Option (List Qe) :=
 (Qh (λ(s4:Int) =>
 if s4<(p0.length:Int) then
 ((at_ p0 s4).bind λv8 =>
 (Xm v8 (Qe.mk p1 p2 ([]:List Int))).bind λv9 =>
 if v9=true then
 (some (.go (w64 (s4+1))))
 else
 some (.out (s4)))
 else
 some (.out (s4))) 0).bind λ(b1:Int) =>
 (ZZ p0).bind λv11 =>
 if b1<(p0.length:Int) then
 ((at_ p0 b1).bind λv14 =>
 (Xm (Qe.mk p1 p2 ([]:List Int)) v14).bind λv15 =>
 if v15=true then
 (if 0<=b1/\b1<=v11.length then
 if (((v11.take (Int.toNat (v11.length:Int))).drop (Int.toNat b1)).length:Int)*40<=140737488355328/\(((v11.take (Int.toNat (v11.length:Int))).drop (Int.toNat b1)).length:Int)<=9223372036854775807 then
 if 0<=b1/\b1<=v11.length then
 if (((v11.take (Int.toNat b1)).length:Int)+[Qe.mk p1 p2 [p3]].length)*40<=140737488355328/\((v11.take (Int.toNat b1)).length:Int)+[Qe.mk p1 p2 [p3]].length<=9223372036854775807 then
 if ((((v11.take (Int.toNat b1))++[Qe.mk p1 p2 [p3]]).length:Int)+((v11.take (Int.toNat (v11.length:Int))).drop (Int.toNat b1)).length)*40<=140737488355328/\(((v11.take (Int.toNat b1))++[Qe.mk p1 p2 [p3]]).length:Int)+((v11.take (Int.toNat (v11.length:Int))).drop (Int.toNat b1)).length<=9223372036854775807 then
 some (((v11.take (Int.toNat b1))++[Qe.mk p1 p2 [p3]])++((v11.take (Int.toNat (v11.length:Int))).drop (Int.toNat b1)))
 else none
 else none
 else none
 else none
 else none)
 else
 (Js v14.slots p3).bind λv23 =>
 (at_ v11 b1).bind λv24 =>
 some (v11.set (Int.toNat b1) (Qe.mk v24.frm v24.to v23)))
 else
 if 0<=b1/\b1<=v11.length then
 if (((v11.take (Int.toNat (v11.length:Int))).drop (Int.toNat b1)).length:Int)*40<=140737488355328/\(((v11.take (Int.toNat (v11.length:Int))).drop (Int.toNat b1)).length:Int)<=9223372036854775807 then
 if 0<=b1/\b1<=v11.length then
 if (((v11.take (Int.toNat b1)).length:Int)+[Qe.mk p1 p2 [p3]].length)*40<=140737488355328/\((v11.take (Int.toNat b1)).length:Int)+[Qe.mk p1 p2 [p3]].length<=9223372036854775807 then
 if ((((v11.take (Int.toNat b1))++[Qe.mk p1 p2 [p3]]).length:Int)+((v11.take (Int.toNat (v11.length:Int))).drop (Int.toNat b1)).length)*40<=140737488355328/\(((v11.take (Int.toNat b1))++[Qe.mk p1 p2 [p3]]).length:Int)+((v11.take (Int.toNat (v11.length:Int))).drop (Int.toNat b1)).length<=9223372036854775807 then
 some (((v11.take (Int.toNat b1))++[Qe.mk p1 p2 [p3]])++((v11.take (Int.toNat (v11.length:Int))).drop (Int.toNat b1)))
 else none
 else none
 else none
 else none
 else none
theorem Qdg{p0 p1 p2 p3 r}:Sm (Qac p0 p1 p2 p3) r->DCall Tryz.prog 169 [.sl (p0.map Qe.c),DI p1,DI p2,DI p3] [] (.own 0 0 r.length) [(0,aO 3 (r.map Qe.c))]:=by
 unfold Qac
 &mk0 Tryz.func169 ?_
 &ar ?_
 &ar ?_
 &ar ?_
 &cT [0,3] [(9,λb1=>.ptr 0 0 0),(10,λb1=>DI b1)] [0] [] [] 1 (λz2=>?_) λb1=>?_
 &au ?_
 &lP [0,3] [(9,λs4=>.ptr 0 0 0),(10,λs4=>DI s4)] [0] [] [] 1 λs4 y5 hq5=>?_
 &sq λK k=>?_
 &xs (λh7=>?_) λh7=>?_
 &xa λv8 hv8=>?_
 &xd λv9 hv9=>?_
 have q0:=cS r0 (QbH hv9)
 &ar ?_
 &xs (λh10=>?_) λh10=>?_
 &da ?_
 ~wJ []
 &cb ?_
 &xo hq5 ?_
 ~wJ []
 &ar ?_
 &cb ?_
 &xo hq5 ?_
 ~wJ []
 &xd λv11 hv11=>?_
 have q0:=cG r0 (JR hv11)
 &ar ?_
 &sq λK k=>?_
 &xs (λh13=>?_) λh13=>?_
 &xa λv14 hv14=>?_
 &xd λv15 hv15=>?_
 replace q0:=cS r0 (QbH hv15)
 &ar ?_
 &xs (λh16=>?_) λh16=>?_
 &db ?_
 &goA (Ql (c:=iC) ([p3]:List Int) i22.ok i3.ok) ?_
 &au ?_
 &xc λh17=>?_
 rcases U7 h17.2 with h18 | h18
 &xc λh19=>?_
 &ar ?_
 &goA (QeV (c:=Qe.c) (xs:=v11) (a:=b1) (b:=(v11.length:Int)) ⟨h17.1,h17.2,Vo _,.inr h18⟩ i31.ok i81.ok (.inr ⟨_,_,rfl,rfl⟩) (.inl ⟨rfl,rfl⟩) rfl rfl rfl rfl rfl) ?_
 &goA (m_apW (c:=Qe.c) v11 (a:=b1) (b:=(v11.length:Int)) Oo h19 i31.ok i81.ok rfl rfl rfl rfl rfl rfl Od rfl (λ_=>rfl)) ?_
 &au ?_
 &xc λh20=>?_
 &xc λh21=>?_
 &xc λh22=>?_
 &ar ?_
 &goA (QeV (c:=Qe.c) (xs:=v11) (a:=0) (b:=b1) ⟨Vo 0,h20.1,h20.2,.inl rfl⟩ i31.ok i81.ok (.inl ⟨rfl,rfl⟩) (.inr ⟨_,_,rfl,rfl⟩) rfl rfl rfl rfl rfl) ?_
 &au ?_
 &goA (Ql (c:=Qe.c) ([Qe.mk p1 p2 [p3]]:List Qe) i31.ok i81.ok) ?_
 &goA (m_apV (c:=Qe.c) v11 [Qe.mk p1 p2 [p3]] (b:=b1) Oo h21 i31.ok i81.ok rfl rfl (.own rfl rfl Os (Qg (c:=Qe.c) (λ_=>rfl) _)) rfl rfl rfl Od rfl) ?_
 &au ?_
 &goA (QW (c:=Qe.c) ((v11.take (Int.toNat b1))++[Qe.mk p1 p2 [p3]]) ((v11.take (Int.toNat (v11.length:Int))).drop (Int.toNat b1)) h22 i31.ok i81.ok rfl rfl (.own rfl rfl Os (Qg (c:=Qe.c) (λ_=>rfl) _)) rfl) ?_
 &au ?_
 ~ft [(0,6)]
 &xc λh19=>?_
 &ar ?_
 &goA (m_slN (c:=Qe.c) (xs:=v11) (a:=b1) h18 i31.ok i81.ok ⟨_,_,rfl,rfl⟩ rfl rfl rfl rfl rfl) ?_
 &goA (QbU (c:=Qe.c) ((v11.take (Int.toNat (v11.length:Int))).drop (Int.toNat b1)) h19 i31.ok i81.ok rfl (.sl rfl (Qg (c:=Qe.c) (λ_=>rfl) _))) ?_
 &au ?_
 &xc λh20=>?_
 &xc λh21=>?_
 &xc λh22=>?_
 &ar ?_
 &goA (QeV (c:=Qe.c) (xs:=v11) (a:=0) (b:=b1) ⟨Vo 0,h20.1,h20.2,.inl rfl⟩ i31.ok i81.ok (.inl ⟨rfl,rfl⟩) (.inr ⟨_,_,rfl,rfl⟩) rfl rfl rfl rfl rfl) ?_
 &au ?_
 &goA (Ql (c:=Qe.c) ([Qe.mk p1 p2 [p3]]:List Qe) i31.ok i81.ok) ?_
 &goA (m_apV (c:=Qe.c) v11 [Qe.mk p1 p2 [p3]] (b:=b1) Oo h21 i31.ok i81.ok rfl rfl (.own rfl rfl Os (Qg (c:=Qe.c) (λ_=>rfl) _)) rfl rfl rfl Od rfl) ?_
 &au ?_
 &goA (QW (c:=Qe.c) ((v11.take (Int.toNat b1))++[Qe.mk p1 p2 [p3]]) ((v11.take (Int.toNat (v11.length:Int))).drop (Int.toNat b1)) h22 i31.ok i81.ok rfl rfl (.own rfl rfl Os (Qg (c:=Qe.c) (λ_=>rfl) _)) rfl) ?_
 &au ?_
 ~ft [(0,6)]
 &ca ?_
 &xd λv23 hv23=>?_
 &xa λv24 hv24=>?_
 replace q0:=cG r0 (QcI hv23)
 &ar ?_
 &goA (Xr (c:=Qe.c) hv24.h (Qe.mk v24.frm v24.to v23) i22.ok) ?_
 &au ?_
 &ar ?_
 ~ft [(0,1)]
 &ar ?_
 &db ?_
 &goA (Ql (c:=iC) ([p3]:List Int) i22.ok i3.ok) ?_
 &au ?_
 &xc λh25=>?_
 rcases U7 h25.2 with h26 | h26
 &xc λh27=>?_
 &ar ?_
 &goA (QeV (c:=Qe.c) (xs:=v11) (a:=b1) (b:=(v11.length:Int)) ⟨h25.1,h25.2,Vo _,.inr h26⟩ i31.ok i81.ok (.inr ⟨_,_,rfl,rfl⟩) (.inl ⟨rfl,rfl⟩) rfl rfl rfl rfl rfl) ?_
 &goA (m_apW (c:=Qe.c) v11 (a:=b1) (b:=(v11.length:Int)) Oo h27 i31.ok i81.ok rfl rfl rfl rfl rfl rfl Od rfl (λ_=>rfl)) ?_
 &au ?_
 &xc λh28=>?_
 &xc λh29=>?_
 &xc λh30=>?_
 &ar ?_
 &goA (QeV (c:=Qe.c) (xs:=v11) (a:=0) (b:=b1) ⟨Vo 0,h28.1,h28.2,.inl rfl⟩ i31.ok i81.ok (.inl ⟨rfl,rfl⟩) (.inr ⟨_,_,rfl,rfl⟩) rfl rfl rfl rfl rfl) ?_
 &au ?_
 &goA (Ql (c:=Qe.c) ([Qe.mk p1 p2 [p3]]:List Qe) i31.ok i81.ok) ?_
 &goA (m_apV (c:=Qe.c) v11 [Qe.mk p1 p2 [p3]] (b:=b1) Oo h29 i31.ok i81.ok rfl rfl (.own rfl rfl Os (Qg (c:=Qe.c) (λ_=>rfl) _)) rfl rfl rfl Od rfl) ?_
 &au ?_
 &goA (QW (c:=Qe.c) ((v11.take (Int.toNat b1))++[Qe.mk p1 p2 [p3]]) ((v11.take (Int.toNat (v11.length:Int))).drop (Int.toNat b1)) h30 i31.ok i81.ok rfl rfl (.own rfl rfl Os (Qg (c:=Qe.c) (λ_=>rfl) _)) rfl) ?_
 &au ?_
 ~ft [(0,6)]
 &xc λh27=>?_
 &ar ?_
 &goA (m_slN (c:=Qe.c) (xs:=v11) (a:=b1) h26 i31.ok i81.ok ⟨_,_,rfl,rfl⟩ rfl rfl rfl rfl rfl) ?_
 &goA (QbU (c:=Qe.c) ((v11.take (Int.toNat (v11.length:Int))).drop (Int.toNat b1)) h27 i31.ok i81.ok rfl (.sl rfl (Qg (c:=Qe.c) (λ_=>rfl) _))) ?_
 &au ?_
 &xc λh28=>?_
 &xc λh29=>?_
 &xc λh30=>?_
 &ar ?_
 &goA (QeV (c:=Qe.c) (xs:=v11) (a:=0) (b:=b1) ⟨Vo 0,h28.1,h28.2,.inl rfl⟩ i31.ok i81.ok (.inl ⟨rfl,rfl⟩) (.inr ⟨_,_,rfl,rfl⟩) rfl rfl rfl rfl rfl) ?_
 &au ?_
 &goA (Ql (c:=Qe.c) ([Qe.mk p1 p2 [p3]]:List Qe) i31.ok i81.ok) ?_
 &goA (m_apV (c:=Qe.c) v11 [Qe.mk p1 p2 [p3]] (b:=b1) Oo h29 i31.ok i81.ok rfl rfl (.own rfl rfl Os (Qg (c:=Qe.c) (λ_=>rfl) _)) rfl rfl rfl Od rfl) ?_
 &au ?_
 &goA (QW (c:=Qe.c) ((v11.take (Int.toNat b1))++[Qe.mk p1 p2 [p3]]) ((v11.take (Int.toNat (v11.length:Int))).drop (Int.toNat b1)) h30 i31.ok i81.ok rfl rfl (.own rfl rfl Os (Qg (c:=Qe.c) (λ_=>rfl) _)) rfl) ?_
 &au ?_
 ~ft [(0,6)]
noncomputable def ZJ(p0:List (List Inc))(p1:Int):Option (List (List Inc)×Int) :=
 (Q5 p0).bind λv1 =>
 bndR (Qh (λ(s5:Int) =>
 if s5<(v1.length:Int) then
 (bndR ((at_ v1 s5).bind λv11 =>
 Qh (λ(s13:Int) =>
 if s13<(v11.length:Int) then
 ((at_ v11 s13).bind λv18 =>
 if v18.seq=p1 then
 (if 0<=s13/\s13<=v11.length then
 if 0<=w64 (s13+1)/\w64 (s13+1)<=v11.length then
 if 0<=s13/\s13<=w64 (s13+1)/\w64 (s13+1)<=v11.length then
 if (v11.length:Int)*40<=140737488355328/\(v11.length:Int)<=9223372036854775807 then
 some (.out (.inr (.out (.inr ((v1.set (Int.toNat s5) ((v11.take (Int.toNat s13))++((v11.take (Int.toNat (v11.length:Int))).drop (Int.toNat (w64 (s13+1))))),0))))))
 else none
 else none
 else none
 else none)
 else
 some (.go (w64 (s13+1))))
 else
 some (.out (.inl (())))) 0) λ(b9:Unit) =>
 some (.go (w64 (s5+1))))
 else
 some (.out (.inl (())))) 0) λ(b2:Unit) =>
 some ((([]:List (List Inc)),5))
theorem QbI{p0 p1 r}:Sm (ZJ p0 p1) r->DCall Tryz.prog 181 [.sl (p0.map (lC Inc.c)),DI p1] [] (.tup [.own 0 0 r.1.length,DI r.2]) [(0,⟨1,false,false,r.1.map (lD 5 Inc.c)⟩)]:=by
 unfold ZJ
 &mk0 Tryz.func181 ?_
 &ar ?_
 &xd λv1 hv1=>?_
 have q0:=cG r0 (ZU hv1)
 &ar ?_
 &xx (Qp (Qcq (s:=0) (xs:=v1) (cd:=(lD 5 Inc.c)) rfl (λ_=>rfl))) ?_
 &cU [] [] [] [] [] 0 (λz3 hr3=>?_) λb2=>?_
 &ar ?_
 &lP [1,14] [(6,λs5=>.own 0 0 v1.length),(13,λs5=>.own 0 0 v1.length),(15,λs5=>DI s5)] [] [] [(0,λs5=>⟨1,false,false,v1.map (lD 5 Inc.c)⟩)] 1 λs5 y6 hq6=>?_
 &ar ?_
 &sq λK k=>?_
 &xs (λh8=>?_) λh8=>?_
 &ca ?_
 &cU [1,6,13,14,15] [] [0] [] [] 1 (λz10 hr10=>?_) λb9=>?_
 &au ?_
 &xa λv11 hv11=>?_
 &ar ?_
 &goA (m_ldD (j:=0) (c:=Inc.c) (ys:=v11) hv11 [.own 1 0 v11.length] i52.ok rfl rfl) ?_
 &au ?_
 &ar ?_
 &lP [1,6,7,13,14,15,21] [(8,λs13=>.own 1 0 v11.length),(20,λs13=>.own 1 0 v11.length),(22,λs13=>DI s13)] [1] [] [(0,λs13=>⟨1,false,false,(v1.map (lD 5 Inc.c)).set (Int.toNat s5) [.own 1 0 v11.length]⟩)] 2 λs13 y14 hq14=>?_
 &ar ?_
 &sq λK k=>?_
 &xs (λh16=>?_) λh16=>?_
 &ca ?_
 &sq λK k=>?_
 &au ?_
 &xa λv18 hv18=>?_
 &ar ?_
 &ar ?_
 &xs (λh19=>?_) λh19=>?_
 &ca ?_
 &xc λh20=>?_
 &xc λh21=>?_
 rcases U7 h21.2 with h22 | h22
 &xc λh23=>?_
 &xc λh24=>?_
 &ar ?_
 &goA (QeV (c:=Inc.c) (xs:=v11) (a:=0) (b:=s13) ⟨Vo 0,h20.1,h20.2,.inl rfl⟩ i52.ok i56.ok (.inl ⟨rfl,rfl⟩) (.inr ⟨_,_,rfl,rfl⟩) rfl rfl rfl rfl rfl) ?_
 &au ?_
 &goA (QeV (c:=Inc.c) (xs:=v11) (a:=w64 (s13+1)) (b:=(v11.length:Int)) ⟨h21.1,h21.2,Vo _,.inr h22⟩ i52.ok i56.ok (.inr ⟨_,_,rfl,rfl⟩) (.inl ⟨rfl,rfl⟩) rfl rfl rfl rfl rfl) ?_
 &goA (m_del (c:=Inc.c) v11 (a:=s13) (b:=w64 (s13+1)) h23 i52.ok i56.ok rfl rfl (by first | rfl | omega | (simp;done) | (simp;omega)) rfl (delV rfl rfl rfl ⟨Oo,h23.2.2⟩ rfl) h24) ?_
 &goA ((m_iaO hv11.h i30.ok i52.ok rfl rfl rfl)) ?_
 &goA (m_stR hv11 [.own 3 0 ((v11.take (Int.toNat s13))++((v11.take (Int.toNat (v11.length:Int))).drop (Int.toNat (w64 (s13+1))))).length] (.inr rfl) i52.ok) ?_
 &au ?_
 &xx (Qp (attR (s:=0) (t:=3) (j:=0) (c:=Inc.c) hv11 [.dp 5 (((v11.take (Int.toNat s13))++((v11.take (Int.toNat (v11.length:Int))).drop (Int.toNat (w64 (s13+1))))).map Inc.c)] rfl rfl rfl rfl rfl rfl)) ?_
 &xx (Qp (tellR (s:=0) ((v11.take (Int.toNat s13))++((v11.take (Int.toNat (v11.length:Int))).drop (Int.toNat (w64 (s13+1))))) rfl rfl)) ?_
 &ar ?_
 &xo hq14 ?_
 &xr hr10 ?_
 &xo hq6 ?_
 &xr hr3 ?_
 ~ftt r1
 &xc λh23=>?_
 &xc λh24=>?_
 &ar ?_
 &goA (QeV (c:=Inc.c) (xs:=v11) (a:=0) (b:=s13) ⟨Vo 0,h20.1,h20.2,.inl rfl⟩ i52.ok i56.ok (.inl ⟨rfl,rfl⟩) (.inr ⟨_,_,rfl,rfl⟩) rfl rfl rfl rfl rfl) ?_
 &au ?_
 &goA (m_slN (c:=Inc.c) (xs:=v11) (a:=w64 (s13+1)) h22 i52.ok i56.ok ⟨_,_,rfl,rfl⟩ rfl rfl rfl rfl rfl) ?_
 &goA (m_del (c:=Inc.c) v11 (a:=s13) (b:=w64 (s13+1)) h23 i52.ok i56.ok rfl rfl (by first | rfl | omega | (simp;done) | (simp;omega)) rfl rfl h24) ?_
 &goA ((m_iaO hv11.h i30.ok i52.ok rfl rfl rfl)) ?_
 &goA (m_stR hv11 [.own 3 0 ((v11.take (Int.toNat s13))++((v11.take (Int.toNat (v11.length:Int))).drop (Int.toNat (w64 (s13+1))))).length] (.inr rfl) i52.ok) ?_
 &au ?_
 &xx (Qp (attR (s:=0) (t:=3) (j:=0) (c:=Inc.c) hv11 [.dp 5 (((v11.take (Int.toNat s13))++((v11.take (Int.toNat (v11.length:Int))).drop (Int.toNat (w64 (s13+1))))).map Inc.c)] rfl rfl rfl rfl rfl rfl)) ?_
 &xx (Qp (tellR (s:=0) ((v11.take (Int.toNat s13))++((v11.take (Int.toNat (v11.length:Int))).drop (Int.toNat (w64 (s13+1))))) rfl rfl)) ?_
 &ar ?_
 &xo hq14 ?_
 &xr hr10 ?_
 &xo hq6 ?_
 &xr hr3 ?_
 ~ftt r1
 &db ?_
 ~wJ []
 &cb ?_
 &xo hq14 ?_
 intro H;have e:=se H;subst e;~⟨_,rfl,ZM.trans (attR (s:=0) (t:=1) (j:=0) (c:=Inc.c) hv11 [.dp 5 (v11.map Inc.c)] rfl rfl rfl rfl rfl rfl) (ZM.trans (tellS (s:=0) hv11 rfl rfl) (wkJ []))⟩
 &ar ?_
 ~wJ []
 &cb ?_
 &xo hq6 ?_
 ~wJ []
 &ar ?_
 &xx (Qz 4 1 Od rfl) ?_
 &xx (Qp (Qdb (cd:=(lD 5 Inc.c)) (s:=0) rfl)) ?_
 ~ftt r1
noncomputable def Q4(p0:List (List Inc))(p1:Inc):Option (List (List Inc)×Int) :=
 if p1.belt<0 then
 (some ((([]:List (List Inc)),1)))
 else
 if (p0.length:Int)<=p1.belt then
 (some ((([]:List (List Inc)),1)))
 else
 (Q5 p0).bind λv4 =>
 bndR ((at_ v4 p1.belt).bind λv7 =>
 Qh (λ(s9:Int) =>
 if s9<(v7.length:Int) then
 ((at_ v7 s9).bind λv14 =>
 if v14.seq=p1.seq then
 (some (.out (.inr ((v4.set (Int.toNat p1.belt) (v7.set (Int.toNat s9) p1),0)))))
 else
 some (.go (w64 (s9+1))))
 else
 some (.out (.inl (())))) 0) λ(b5:Unit) =>
 some ((([]:List (List Inc)),5))
theorem JT{p0 p1 r}:Sm (Q4 p0 p1) r->DCall Tryz.prog 143 [.sl (p0.map (lC Inc.c)),.agg [DI p1.seq,DI p1.belt,DI p1.first,DI p1.last,DI p1.words]] [] (.tup [.own 0 0 r.1.length,DI r.2]) [(0,⟨1,false,false,r.1.map (lD 5 Inc.c)⟩)]:=by
 unfold Q4
 &mk0 Tryz.func143 ?_
 &ar ?_
 &sq λK k=>?_
 &xs (λh2=>?_) λh2=>?_
 &ar ?_
 &da ?_
 &xx (Qz 4 1 Od rfl) ?_
 &xx (Qp (Qdb (cd:=(lD 5 Inc.c)) (s:=1) rfl)) ?_
 ~ftt [(0,1)]
 &ar ?_
 &xs (λh3=>?_) λh3=>?_
 &da ?_
 &xx (Qz 4 1 Od rfl) ?_
 &xx (Qp (Qdb (cd:=(lD 5 Inc.c)) (s:=1) rfl)) ?_
 ~ftt [(0,1)]
 &cb ?_
 &xd λv4 hv4=>?_
 have q0:=cG r0 (ZU hv4)
 &ar ?_
 &xx (Qp (Qcq (s:=1) (xs:=v4) (cd:=(lD 5 Inc.c)) rfl (λ_=>rfl))) ?_
 &cU [] [] [] [] [] 0 (λz6 hr6=>?_) λb5=>?_
 &xa λv7 hv7=>?_
 &ar ?_
 &goA (m_ldD (j:=0) (c:=Inc.c) (ys:=v7) hv7 [.own 2 0 v7.length] i52.ok rfl rfl) ?_
 &au ?_
 &lP [26] [(3,λs9=>.ptr 0 0 0),(6,λs9=>.own 1 0 v4.length),(25,λs9=>.own 2 0 v7.length),(27,λs9=>DI s9)] [0,2] [] [(1,λs9=>⟨1,false,false,(v4.map (lD 5 Inc.c)).set (Int.toNat p1.belt) [.own 2 0 v7.length]⟩)] 3 λs9 y10 hq10=>?_
 &ar ?_
 &sq λK k=>?_
 &xs (λh12=>?_) λh12=>?_
 &ca ?_
 &sq λK k=>?_
 &au ?_
 &xa λv14 hv14=>?_
 &ar ?_
 &ar ?_
 &xs (λh15=>?_) λh15=>?_
 &da ?_
 &goA ((m_iaO hv7.h i30.ok i52.ok rfl rfl rfl)) ?_
 &goA (m_ldR hv7 i52.ok) ?_
 &au ?_
 &goA (Xr (c:=Inc.c) hv14.h p1 i56.ok) ?_
 &au ?_
 &xx (Qp (attR (s:=1) (t:=2) (j:=0) (c:=Inc.c) hv7 [.dp 5 ((v7.set (Int.toNat s9) p1).map Inc.c)] rfl rfl rfl (by first | omega | (simp;done) | (simp;omega)) rfl rfl)) ?_
 &xx (Qp (tellR (s:=1) (v7.set (Int.toNat s9) p1) rfl rfl)) ?_
 &ar ?_
 &xo hq10 ?_
 &xr hr6 ?_
 ~ftt [(0,1)]
 &db ?_
 ~wJ []
 &cb ?_
 &xo hq10 ?_
 intro H;have e:=se H;subst e;~⟨_,rfl,ZM.trans (attR (s:=1) (t:=2) (j:=0) (c:=Inc.c) hv7 [.dp 5 (v7.map Inc.c)] rfl rfl rfl rfl rfl rfl) (ZM.trans (tellS (s:=1) hv7 rfl rfl) (wkJ []))⟩
 &ar ?_
 &xx (Qz 4 1 Od rfl) ?_
 &xx (Qp (Qdb (cd:=(lD 5 Inc.c)) (s:=0) rfl)) ?_
 ~ftt r1
end Go.Proofs.YtkfnkecgcdhncaaGreat
