/- Parts of the proof. No condition. -/
import Derived.Test.YthpnlnjdmlbnaaaGreatDoorQB0
import Derived.Test.YthpnlnjdmlbnaaaGreatDoorQB3
import Derived.Test.YthpnlnjdmlbnaaaGreatDoorQB4
import Derived.Test.YthpnlnjdmlbnaaaGreatDoorQB5
namespace Go.Proofs.YthpnlnjdmlbnaaaGreatDoor
open Go.RowKit
set_option linter.unusedSimpArgs false
set_option linter.unusedVariables false
set_option maxRecDepth 20000
set_option maxHeartbeats 40000000
noncomputable def JB(p0:Qc):Option (Nat×Qc) :=
 (Qb p0 4).bind λv2 =>
 if v2.1=0 then
 ((Qb v2.2 5).bind λv4 =>
 (at_ [4602678819172646912,4593671619917905920,4607182418800017408,4599676419421066581,4562254508917369340] v4.1).bind λv5 =>
 some ((v5,v4.2)))
 else
 (Qb v2.2 100).bind λv6 =>
 (Zc (w64 (1+v6.1))).bind λv7 =>
 some ((v7.1,v6.2))
theorem QeW{p0 r}:Sm (JB p0) r->DCall Tryz.prog 92 [.ptr 0 0 0] [(0,bO 2 [.sl (p0.l.map iC),DI p0.pos])] (.lit (.float .f64 r.1)) [(0,bO 2 [.sl (r.2.l.map iC),DI r.2.pos])]:=by
 unfold JB
 refine mk0 Tryz.func92 ?_
 refine ar ?_
 refine sq λK k=>?_
 refine xd λv2 hv2=>?_
 have q0:=cG r1 (Qa hv2)
 refine ar ?_
 refine xs (λh3=>?_) λh3=>?_
 refine ca ?_
 refine xd λv4 hv4=>?_
 refine xa λv5 hv5=>?_
 replace q0:=cG r1 (Qa hv4)
 refine ar ?_
 refine goA (Qk (c:=fC) ([4602678819172646912,4593671619917905920,4607182418800017408,4599676419421066581,4562254508917369340]:List Nat) i217.ok i129.ok) ?_
 refine au ?_
 exact ft r1
 refine cb ?_
 refine xd λv6 hv6=>?_
 refine xd λv7 hv7=>?_
 replace q0:=cG r1 (Qa hv6)
 have q1:=cS r0 (Qaf hv7)
 refine ar ?_
 refine ar ?_
 exact ft r1
noncomputable def Qag(p0:Qc):Option (Int×Int×Qc) :=
 (Qb p0 2).bind λv1 =>
 (Qb v1.2 15).bind λv2 =>
 some ((w64 (3+v1.1),w64 (6+v2.1),v2.2))
theorem QeV{p0 r}:Sm (Qag p0) r->DCall Tryz.prog 83 [.ptr 0 0 0] [(0,bO 2 [.sl (p0.l.map iC),DI p0.pos])] (.tup [DI r.1,DI r.2.1]) [(0,bO 2 [.sl (r.2.2.l.map iC),DI r.2.2.pos])]:=by
 unfold Qag
 refine mk0 Tryz.func83 ?_
 refine ar ?_
 refine xd λv1 hv1=>?_
 refine xd λv2 hv2=>?_
 refine ar ?_
 refine goA (m_cG r1 (Qa hv1)) ?_
 refine au ?_
 refine goA (m_cG r1 (Qa hv2)) ?_
 refine au ?_
 exact ftt r1
noncomputable def JW(p0:Cfg)(p1:Int)(p2:Int):Option (Hp×Int) :=
 (Zk p0).bind λv2 =>
 if v2=0 then
 ((J1 p1 p2).bind λv4 =>
 if v4.2=0 then
 (if (p0.rules.length:Int) * 32<=140737488355328/\(p0.rules.length:Int)<=9223372036854775807 then
 if 0<=(p0.rules.length:Int)/\(p0.rules.length:Int) * 24<=281474976710656/\(p0.rules.length:Int)<=9223372036854775807 then
 (JX).bind λv9 =>
 some ((Hp.mk p0 v4.1 (List.replicate (Int.toNat (p0.rules.length:Int)) ([]:List Inc)) 0 ([]:List Qe) v9 0 (Sts.mk 0 0 0 0 0 0 0 0 0) false,0))
 else none
 else none)
 else
 some ((Hp.mk (Cfg.mk ⟨#[]⟩ ([]:List Rul) 0) (Sp.mk 0 ([]:List Int) ([]:List Fe)) ([]:List (List Inc)) 0 ([]:List Qe) (Rts.mk ([]:List Bool) ([]:List Int)) 0 (Sts.mk 0 0 0 0 0 0 0 0 0) false,v4.2)))
 else
 some ((Hp.mk (Cfg.mk ⟨#[]⟩ ([]:List Rul) 0) (Sp.mk 0 ([]:List Int) ([]:List Fe)) ([]:List (List Inc)) 0 ([]:List Qe) (Rts.mk ([]:List Bool) ([]:List Int)) 0 (Sts.mk 0 0 0 0 0 0 0 0 0) false,v2))
theorem F_ref27_New_ok{p0 p1 p2 r}:Sm (JW p0 p1 p2) r->DCall Tryz.prog 84 [.agg [.lit (.string p0.name),.sl (p0.rules.map Rul.c),DI p0.full],DI p1,DI p2] [] (.tup [.agg [.lit (.string r.1.config.name),.own 0 0 r.1.config.rules.length,DI r.1.config.full,DI r.1.space.sh,.own 1 0 r.1.space.ws.length,.own 2 0 r.1.space.fs.length,.own 3 0 r.1.belts.length,DI r.1.seq,.own 4 0 r.1.sets.length,.own 5 0 r.1.roots.used.length,.own 6 0 r.1.roots.refs.length,DI r.1.since,DI r.1.stats.allocated,DI r.1.stats.objects,DI r.1.stats.collections,DI r.1.stats.steps,DI r.1.stats.rounds,DI r.1.stats.condemned,DI r.1.stats.copied,DI r.1.stats.entries,DI r.1.stats.work,DB r.1.dead],DI r.2]) [(0,aO 4 (r.1.config.rules.map Rul.c)),(1,aO 1 (r.1.space.ws.map uC)),(2,aO 3 (r.1.space.fs.map frC)),(3,aO 1 (r.1.belts.map (lC Inc.c))),(4,aO 3 (r.1.sets.map Qe.c)),(5,aO 1 (r.1.roots.used.map bC)),(6,aO 1 (r.1.roots.refs.map uC))]:=by
 unfold JW
 refine mk0 Tryz.func84 ?_
 refine ar ?_
 refine sq λK k=>?_
 refine xd λv2 hv2=>?_
 have q0:=cS r0 (Qu hv2)
 refine ar ?_
 refine ar ?_
 refine xs (λh3=>?_) λh3=>?_
 refine cb ?_
 refine xd λv4 hv4=>?_
 replace q0:=cS r0 (F_ref03_New_ok hv4)
 refine ar ?_
 refine sq λK k=>?_
 refine ar ?_
 refine xs (λh6=>?_) λh6=>?_
 refine cb ?_
 refine xc λh7=>?_
 refine ar ?_
 refine goA (Qbi (c:=Rul.c) p0.rules h7 i23.ok J5.ok rfl (.sl rfl (Qf (c:=Rul.c) (λ_=>rfl) _))) ?_
 refine au ?_
 refine xc λh8=>?_
 refine xd λv9 hv9=>?_
 replace q0:=cS r0 (F_ref20_New_ok hv9)
 refine ar ?_
 refine goA (m_mkZ (c:=(lC Inc.c)) ([]:List Inc) h8 i30.ok i46.ok) ?_
 refine au ?_
 refine xx (Qg 1 8 3 Od rfl rfl) ?_
 exact fwt [(0,5),(1,2),(2,3),(3,6),(4,9),(5,7),(6,8)]
 refine da ?_
 refine xx (Qg 1 1 4 Od rfl rfl) ?_
 refine xx (Qg 1 4 1 Od rfl rfl) ?_
 refine xx (Qg 1 5 3 Od rfl rfl) ?_
 refine xx (Qg 1 6 1 Od rfl rfl) ?_
 refine xx (Qg 1 8 3 Od rfl rfl) ?_
 refine xx (Qg 1 9 1 Od rfl rfl) ?_
 refine xx (Qg 1 10 1 Od rfl rfl) ?_
 exact fwt [(0,5),(1,6),(2,7),(3,8),(4,9),(5,10),(6,11)]
 refine da ?_
 refine xx (Qg 1 1 4 Od rfl rfl) ?_
 refine xx (Qg 1 4 1 Od rfl rfl) ?_
 refine xx (Qg 1 5 3 Od rfl rfl) ?_
 refine xx (Qg 1 6 1 Od rfl rfl) ?_
 refine xx (Qg 1 8 3 Od rfl rfl) ?_
 refine xx (Qg 1 9 1 Od rfl rfl) ?_
 refine xx (Qg 1 10 1 Od rfl rfl) ?_
 exact fwt [(0,2),(1,3),(2,4),(3,5),(4,6),(5,7),(6,8)]
noncomputable def QW(c0:List Int)(c2:Qc):Option (Int×List Int×Qc) :=
 if (c0.length:Int)=0 then
 ((Qb c2 35).bind λv3 =>
 some ((v3.1,c0,v3.2)))
 else
 (Qb c2 12).bind λv4 =>
 if v4.1=0 then
 ((Qb v4.2 35).bind λv6 =>
 some ((v6.1,c0,v6.2)))
 else
 (Qb v4.2 (c0.length:Int)).bind λv7 =>
 (at_ c0 v7.1).bind λv8 =>
 some ((v8,c0,v7.2))
theorem Q6{c0 c2 r}:Sm (QW c0 c2) r->DCall Tryz.prog 132 [.ptr 0 0 0,.ptr 1 0 0] [(0,bO 1 [.sl (c0.map iC)]),(1,bO 1 [.ptr 2 0 0]),(2,bO 2 [.sl (c2.l.map iC),DI c2.pos])] (DI r.1) [(0,bO 1 [.sl (r.2.1.map iC)]),(1,⟨1,false,false,[[.ptr 2 0 0]]⟩),(2,bO 2 [.sl (r.2.2.l.map iC),DI r.2.2.pos])]:=by
 unfold QW
 refine mk0 Tryz.func132 ?_
 refine ar ?_
 refine sq λK k=>?_
 refine xs (λh2=>?_) λh2=>?_
 refine ar ?_
 refine ca ?_
 refine xd λv3 hv3=>?_
 have q0:=cG [(0,2)] (Qa hv3)
 refine ar ?_
 exact ft r3
 refine xd λv4 hv4=>?_
 have q0:=cG [(0,2)] (Qa hv4)
 refine ar ?_
 refine xs (λh5=>?_) λh5=>?_
 refine ca ?_
 refine xd λv6 hv6=>?_
 replace q0:=cG [(0,2)] (Qa hv6)
 refine ar ?_
 exact ft r3
 refine cb ?_
 refine xd λv7 hv7=>?_
 refine xa λv8 hv8=>?_
 replace q0:=cG [(0,2)] (Qa hv7)
 refine ar ?_
 exact ft r3
noncomputable def Qw(p0:Hp):Option Hp :=
 if (p0.config.rules.length:Int) * 32<=140737488355328/\(p0.config.rules.length:Int)<=9223372036854775807 then
 (XR p0.space).bind λv2 =>
 (QS p0.belts).bind λv3 =>
 (ZA p0.sets).bind λv4 =>
 (Zz p0.roots).bind λv5 =>
 some (Hp.mk p0.config v2 v3 p0.seq v4 v5 p0.since p0.stats p0.dead)
 else none
theorem QP{p0 r}:Sm (Qw p0) r->DCall Tryz.prog 78 [.agg [.lit (.string p0.config.name),.sl (p0.config.rules.map Rul.c),DI p0.config.full,DI p0.space.sh,.sl (p0.space.ws.map uC),.sl (p0.space.fs.map frC),.sl (p0.belts.map (lC Inc.c)),DI p0.seq,.sl (p0.sets.map Qe.c),.sl (p0.roots.used.map bC),.sl (p0.roots.refs.map uC),DI p0.since,DI p0.stats.allocated,DI p0.stats.objects,DI p0.stats.collections,DI p0.stats.steps,DI p0.stats.rounds,DI p0.stats.condemned,DI p0.stats.copied,DI p0.stats.entries,DI p0.stats.work,DB p0.dead]] [] (.agg [.lit (.string r.config.name),.own 0 0 r.config.rules.length,DI r.config.full,DI r.space.sh,.own 1 0 r.space.ws.length,.own 2 0 r.space.fs.length,.own 3 0 r.belts.length,DI r.seq,.own 4 0 r.sets.length,.own 5 0 r.roots.used.length,.own 6 0 r.roots.refs.length,DI r.since,DI r.stats.allocated,DI r.stats.objects,DI r.stats.collections,DI r.stats.steps,DI r.stats.rounds,DI r.stats.condemned,DI r.stats.copied,DI r.stats.entries,DI r.stats.work,DB r.dead]) [(0,aO 4 (r.config.rules.map Rul.c)),(1,aO 1 (r.space.ws.map uC)),(2,aO 3 (r.space.fs.map frC)),(3,aO 1 (r.belts.map (lC Inc.c))),(4,aO 3 (r.sets.map Qe.c)),(5,aO 1 (r.roots.used.map bC)),(6,aO 1 (r.roots.refs.map uC))]:=by
 unfold Qw
 refine mk0 Tryz.func78 ?_
 refine ar ?_
 refine ar ?_
 refine xc λh1=>?_
 refine ar ?_
 refine goA (Qbi (c:=Rul.c) p0.config.rules h1 i23.ok J5.ok rfl (.sl rfl (Qf (c:=Rul.c) (λ_=>rfl) _))) ?_
 refine au ?_
 refine xd λv2 hv2=>?_
 have q0:=cS r0 (QbC hv2)
 refine ar ?_
 refine xd λv3 hv3=>?_
 replace q0:=cG r0 (Zx hv3)
 refine ar ?_
 refine xx (Qt (Qb1 (s:=6) (xs:=v3) (cd:=(lD 5 Inc.c)) rfl (λ_=>rfl))) ?_
 refine xx (Qt (ZJ.flat (s:=6) (c:=(lC Inc.c)) rfl (λ_=>rfl) (λ_=>rfl))) ?_
 refine xd λv4 hv4=>?_
 replace q0:=cG r0 (X6 hv4)
 refine ar ?_
 refine xd λv5 hv5=>?_
 replace q0:=cS r0 (X5 hv5)
 refine ar ?_
 refine ar ?_
 exact fw [(0,3),(1,4),(2,5),(3,6),(4,7),(5,8),(6,9)]
noncomputable def Z7(p0:Cfg)(p1:Int)(p2:Int):Option (Int×Int) :=
 (Zk p0).bind λv2 =>
 if v2=0 then
 (if p1 < 0 then
 (some ((0,1)))
 else
 if (p0.rules.length:Int)<=p1 then
 (some ((0,1)))
 else
 if p2 < 1 then
 (some ((0,1)))
 else
 if 64 < p2 then
 (some ((0,1)))
 else
 (at_ p0.rules p1).bind λv8 =>
 (ZV v8.share p2).bind λv9 =>
 some ((v9.1,v9.2)))
 else
 some ((0,1))
theorem QbY{p0 p1 p2 r}:Sm (Z7 p0 p1 p2) r->DCall Tryz.prog 125 [.agg [.lit (.string p0.name),.sl (p0.rules.map Rul.c),DI p0.full],DI p1,DI p2] [] (.tup [DI r.1,DI r.2]) []:=by
 unfold Z7
 refine mk0 Tryz.func125 ?_
 refine ar ?_
 refine sq λK k=>?_
 refine xd λv2 hv2=>?_
 refine xs (λh3=>?_) λh3=>?_
 refine xs (λh4=>?_) λh4=>?_
 have q0:=cS r0 (Qu hv2)
 refine ar ?_
 refine da ?_
 exact ftt r0
 refine xs (λh5=>?_) λh5=>?_
 have q0:=cS r0 (Qu hv2)
 refine ar ?_
 refine da ?_
 exact ftt r0
 refine xs (λh6=>?_) λh6=>?_
 have q0:=cS r0 (Qu hv2)
 refine ar ?_
 refine da ?_
 exact ftt r0
 have q0:=cS r0 (Qu hv2)
 refine ar ?_
 refine xs (λh7=>?_) λh7=>?_
 refine da ?_
 exact ftt r0
 refine cb ?_
 refine xa λv8 hv8=>?_
 refine xd λv9 hv9=>?_
 replace q0:=cS r0 (Qda hv9)
 refine ar ?_
 exact ftt r0
 have q0:=cS r0 (Qu hv2)
 refine ar ?_
 refine da ?_
 exact ftt r0
noncomputable def XN(p0:Sp)(p1:Inc)(p2:Int):Option Bool :=
 if p2=0 then
 (some (true))
 else
 (JA p0).bind λv2 =>
 some (decide (p1.words < (w64 (p2 * v2))))
theorem Qbz{p0 p1 p2 r}:Sm (XN p0 p1 p2) r->DCall Tryz.prog 126 [.agg [DI p0.sh,.sl (p0.ws.map uC),.sl (p0.fs.map frC)],.agg [DI p1.seq,DI p1.belt,DI p1.first,DI p1.last,DI p1.words],DI p2] [] (DB r) []:=by
 unfold XN
 refine mk0 Tryz.func126 ?_
 refine ar ?_
 refine xs (λh1=>?_) λh1=>?_
 refine ar ?_
 exact ft r0
 refine xd λv2 hv2=>?_
 have q0:=cS r0 (QeU hv2)
 refine ar ?_
 exact ft r0
noncomputable def ZF(p0:Sp)(p1:Inc)(p2:Int):Option Int :=
 (XS (w64 (p1.words+p2)) p0.sh).bind λv1 =>
 (QE p0 p1).bind λv2 =>
 some (w64 (v1 - v2))
theorem Qa3{p0 p1 p2 r}:Sm (ZF p0 p1 p2) r->DCall Tryz.prog 193 [.agg [DI p0.sh,.sl (p0.ws.map uC),.sl (p0.fs.map frC)],.agg [DI p1.seq,DI p1.belt,DI p1.first,DI p1.last,DI p1.words],DI p2] [] (DI r) []:=by
 unfold ZF
 refine mk0 Tryz.func193 ?_
 refine ar ?_
 refine xd λv1 hv1=>?_
 refine xd λv2 hv2=>?_
 have q0:=cS r0 (QbD hv1)
 have q1:=cS r0 (Q9 hv2)
 refine ar ?_
 exact ft r0
noncomputable def QH(p0:Cfg):Option Bool :=
 (Zk p0).bind λv1 =>
 if v1=0 then
 ((at_ p0.rules (w64 ((p0.rules.length:Int) - 1))).bind λv3 =>
 some ((Qez .eql v3.share 0)))
 else
 some (false)
theorem QM{p0 r}:Sm (QH p0) r->DCall Tryz.prog 206 [.agg [.lit (.string p0.name),.sl (p0.rules.map Rul.c),DI p0.full]] [] (DB r) []:=by
 unfold QH
 refine mk0 Tryz.func206 ?_
 refine ar ?_
 refine xd λv1 hv1=>?_
 refine xs (λh2=>?_) λh2=>?_
 refine xa λv3 hv3=>?_
 have q0:=cS r0 (Qu hv1)
 refine ar ?_
 refine go (Qdm (.inl rfl)) ?_ (gY (decide_eq_true h2))
 refine au ?_
 exact ft r0
 have q0:=cS r0 (Qu hv1)
 refine ar ?_
 exact ft r0
noncomputable def Z8(p0:Sp)(p1:List (List Inc)):Option Int :=
 (Qi (λ(s4:Int×Int) =>
 if s4.2 < (p1.length:Int) then
 (((at_ p1 s4.2).bind λv10 =>
 Qi (λ(s12:Int×Int) =>
 if s12.2 < (v10.length:Int) then
 ((at_ v10 s12.2).bind λv17 =>
 (QE p0 v17).bind λv18 =>
 some (.go ((max s12.1 v18,w64 (s12.2+1)))))
 else
 some (.out (s12.1))) (s4.1,0)).bind λ(b8:Int) =>
 some (.go ((b8,w64 (s4.2+1)))))
 else
 some (.out (s4.1))) (0,0)).bind λ(b1:Int) =>
 some (b1)
theorem QcI{p0 p1 r}:Sm (Z8 p0 p1) r->DCall Tryz.prog 229 [.agg [DI p0.sh,.sl (p0.ws.map uC),.sl (p0.fs.map frC)],.sl (p1.map (lC Inc.c))] [] (DI r) []:=by
 unfold Z8
 refine mk0 Tryz.func229 ?_
 refine ar ?_
 refine ar ?_
 refine cT [] [(5,λb1=>DI b1)] [] [] [] 0 (λz2=>?_) λb1=>?_
 refine ar ?_
 refine lP [10,11] [(2,λs4=>.ptr 0 0 0),(5,λs4=>DI s4.1),(12,λs4=>DI s4.2)] [0] [] [] 1 λs4 y5 hq5=>?_
 refine ar ?_
 refine sq λK k=>?_
 refine xs (λh7=>?_) λh7=>?_
 refine ca ?_
 refine cT [2,10,11,12] [(5,λb8=>DI b8)] [0] [] [] 1 (λz9=>?_) λb8=>?_
 refine au ?_
 refine xa λv10 hv10=>?_
 refine ar ?_
 refine ar ?_
 refine lP [2,10,11,12,16,17] [(5,λs12=>DI s12.1),(18,λs12=>DI s12.2)] [0] [] [] 1 λs12 y13 hq13=>?_
 refine ar ?_
 refine sq λK k=>?_
 refine xs (λh15=>?_) λh15=>?_
 refine ca ?_
 refine sq λK k=>?_
 refine au ?_
 refine xa λv17 hv17=>?_
 refine ar ?_
 refine xd λv18 hv18=>?_
 have q0:=cS r0 (Q9 hv18)
 refine ar ?_
 refine goA (m_max) ?_
 refine au ?_
 refine ar ?_
 exact wJ []
 refine cb ?_
 refine xo hq13 ?_
 exact wJ []
 refine ar ?_
 exact wJ []
 refine cb ?_
 refine xo hq5 ?_
 exact wJ []
 refine ar ?_
 exact ft r0
noncomputable def XM(p0:Cfg)(p1:List (List Inc)):Option (List Int) :=
 (Zk p0).bind λv2 =>
 if v2=0 then
 (if (p1.length:Int)=(p0.rules.length:Int) then
 ((Qi (λ(s9:List Int×Int) =>
 if s9.2 < (p1.length:Int) then
 ((at_ p1 s9.2).bind λv14 =>
 (at_ p0.rules s9.2).bind λv15 =>
 if v15.limit=0 then
 (some (.go ((s9.1,w64 (s9.2+1)))))
 else
 if v15.limit < (v14.length:Int) then
 (if ((s9.1.length:Int)+[s9.2].length) * 8<=140737488355328/\(s9.1.length:Int)+[s9.2].length<=9223372036854775807 then
 some (.go ((s9.1++[s9.2],w64 (s9.2+1))))
 else none)
 else
 some (.go ((s9.1,w64 (s9.2+1)))))
 else
 some (.out (s9.1))) (([]:List Int),0)).bind λ(b5:List Int) =>
 some (b5))
 else
 some (([]:List Int)))
 else
 some (([]:List Int))
theorem Qby{p0 p1 r}:Sm (XM p0 p1) r->DCall Tryz.prog 226 [.agg [.lit (.string p0.name),.sl (p0.rules.map Rul.c),DI p0.full],.sl (p1.map (lC Inc.c))] [] (.own 0 0 r.length) [(0,aO 1 (r.map iC))]:=by
 unfold XM
 refine mk0 Tryz.func226 ?_
 refine ar ?_
 refine sq λK k=>?_
 refine xd λv2 hv2=>?_
 refine xs (λh3=>?_) λh3=>?_
 have q0:=cS r0 (Qu hv2)
 refine ar ?_
 refine xs (λh4=>?_) λh4=>?_
 refine db ?_
 refine cT [] [(5,λb5=>.own 1 0 b5.length)] [] [] [(1,λb5=>aO 1 (b5.map iC))] 2 (λz6=>?_) λb5=>?_
 refine ar ?_
 refine xx (QU 5 1 Od rfl) ?_
 refine lP [20,21] [(2,λs9=>.ptr 0 0 0),(5,λs9=>.own 1 0 s9.1.length),(22,λs9=>DI s9.2)] [0] [] [(1,λs9=>aO 1 (s9.1.map iC))] 2 λs9 y10 hq10=>?_
 refine ar ?_
 refine sq λK k=>?_
 refine xs (λh12=>?_) λh12=>?_
 refine ca ?_
 refine sq λK k=>?_
 refine au ?_
 refine xa λv14 hv14=>?_
 refine ar ?_
 refine xa λv15 hv15=>?_
 refine ar ?_
 refine xs (λh16=>?_) λh16=>?_
 refine ar ?_
 refine db ?_
 exact wJ []
 refine ar ?_
 refine xs (λh17=>?_) λh17=>?_
 refine ca ?_
 refine xc λh18=>?_
 refine ar ?_
 refine goA (Qk (c:=iC) ([s9.2]:List Int) i22.ok i3.ok) ?_
 refine goA (QT (c:=iC) s9.1 [s9.2] h18 i22.ok i3.ok rfl rfl (.own rfl rfl Os (Qf (c:=iC) (λ_=>rfl) _)) rfl) ?_
 refine au ?_
 refine ar ?_
 exact wJ [(1,3)]
 refine db ?_
 exact wJ []
 refine cb ?_
 refine xo hq10 ?_
 exact wJ []
 refine ar ?_
 exact ft [(0,1)]
 refine da ?_
 refine xx (QU 4 1 Od rfl) ?_
 exact ft [(0,1)]
 have q0:=cS r0 (Qu hv2)
 refine ar ?_
 refine da ?_
 refine xx (QU 4 1 Od rfl) ?_
 exact ft [(0,1)]
noncomputable def ZR(p0:Cfg)(p1:Sp)(p2:List (List Inc))(p3:Cur):Option (List Inc×Cur×Bool) :=
 (Qi (λ(s4:Cur) =>
 if s4.belt < (w64 ((p2.length:Int) - 1)) then
 ((at_ p2 s4.belt).bind λv8 =>
 if (v8.length:Int)=0 then
 (some (.go (Cur.mk (w64 (s4.belt+1)) false 0)))
 else
 some (.out (s4)))
 else
 some (.out (s4))) p3).bind λ(b1:Cur) =>
 (if b1.belt=(w64 ((p2.length:Int) - 1)) then
 (if b1.begun=true then
 (some (b1))
 else
 (QI p2 (w64 ((p2.length:Int) - 1))).bind λv14 =>
 if v14.2=true then
 (some (Cur.mk b1.belt true v14.1.seq))
 else
 some (Cur.mk b1.belt true (-1)))
 else
 some (b1)).bind λ(b10:Cur) =>
 ((at_ p2 b10.belt).bind λv18 =>
 Qi (λ(s21:List Inc×Int) =>
 if s21.2 < (v18.length:Int) then
 ((at_ v18 s21.2).bind λv26 =>
 if b10.belt < (w64 ((p2.length:Int) - 1)) then
 (if ((s21.1.length:Int)+[v26].length) * 40<=140737488355328/\(s21.1.length:Int)+[v26].length<=9223372036854775807 then
 some (.go ((s21.1++[v26],w64 (s21.2+1))))
 else none)
 else
 if v26.seq<=b10.last then
 (if ((s21.1.length:Int)+[v26].length) * 40<=140737488355328/\(s21.1.length:Int)+[v26].length<=9223372036854775807 then
 some (.go ((s21.1++[v26],w64 (s21.2+1))))
 else none)
 else
 some (.go ((s21.1,w64 (s21.2+1)))))
 else
 some (.out (s21.1))) (([]:List Inc),0)).bind λ(b16:List Inc) =>
 if (b16.length:Int)=0 then
 (some ((([]:List Inc),b10,true)))
 else
 (Zl p1).bind λv33 =>
 (at_ p0.rules b10.belt).bind λv34 =>
 (Qi (λ(s39:List Inc×Int×Int) =>
 if s39.2.2 < (b16.length:Int) then
 ((at_ b16 s39.2.2).bind λv44 =>
 (QE p1 v44).bind λv45 =>
 if (w64 (s39.2.1 - v45)) < 0 then
 (some (.out (s39.1)))
 else
 if v34.batch=0 then
 (if ((s39.1.length:Int)+[v44].length) * 40<=140737488355328/\(s39.1.length:Int)+[v44].length<=9223372036854775807 then
 some (.go ((s39.1++[v44],w64 (s39.2.1 - v45),w64 (s39.2.2+1))))
 else none)
 else
 if (s39.1.length:Int)=v34.batch then
 (some (.out (s39.1)))
 else
 if ((s39.1.length:Int)+[v44].length) * 40<=140737488355328/\(s39.1.length:Int)+[v44].length<=9223372036854775807 then
 some (.go ((s39.1++[v44],w64 (s39.2.1 - v45),w64 (s39.2.2+1))))
 else none)
 else
 some (.out (s39.1))) (([]:List Inc),(v33.length:Int),0)).bind λ(b35:List Inc) =>
 some ((b35,b10,false))
theorem Qax{p0 p1 p2 p3 r}:Sm (ZR p0 p1 p2 p3) r->DCall Tryz.prog 42 [.agg [.lit (.string p0.name),.sl (p0.rules.map Rul.c),DI p0.full],.agg [DI p1.sh,.sl (p1.ws.map uC),.sl (p1.fs.map frC)],.sl (p2.map (lC Inc.c)),.agg [DI p3.belt,DB p3.begun,DI p3.last]] [] (.tup [.own 0 0 r.1.length,.agg [DI r.2.1.belt,DB r.2.1.begun,DI r.2.1.last],DB r.2.2]) [(0,aO 5 (r.1.map Inc.c))]:=by
 unfold ZR
 refine mk0 Tryz.func42 ?_
 refine ar ?_
 refine ar ?_
 refine cT [2,11] [(4,λb1=>.ptr 0 0 0),(5,λb1=>.ptr 1 0 0),(7,λb1=>.ptr 2 0 0),(9,λb1=>.ptr 3 0 0)] [0,1,3] [] [(2,λb1=>bO 3 [DI b1.belt,DB b1.begun,DI b1.last])] 4 (λz2=>?_) λb1=>?_
 refine au ?_
 refine lP [2,11] [(4,λs4=>.ptr 0 0 0),(5,λs4=>.ptr 1 0 0),(7,λs4=>.ptr 2 0 0),(9,λs4=>.ptr 3 0 0)] [0,1,3] [] [(2,λs4=>bO 3 [DI s4.belt,DB s4.begun,DI s4.last])] 4 λs4 y5 hq5=>?_
 refine sq λK k=>?_
 refine xs (λh7=>?_) λh7=>?_
 refine xa λv8 hv8=>?_
 refine ar ?_
 refine xs (λh9=>?_) λh9=>?_
 refine da ?_
 exact wJ []
 refine cb ?_
 refine xo hq5 ?_
 exact wJ []
 refine ar ?_
 refine cb ?_
 refine xo hq5 ?_
 exact wJ []
 refine cT [2,4,5,7,9,11] [] [0,1,3] [] [(2,λb10=>bO 3 [DI b10.belt,DB b10.begun,DI b10.last])] 4 (λz11=>?_) λb10=>?_
 refine xs (λh12=>?_) λh12=>?_
 refine ar ?_
 refine xs (λh13=>?_) λh13=>?_
 refine cb ?_
 exact wJ []
 refine da ?_
 refine xd λv14 hv14=>?_
 have q0:=cS r0 (ZE hv14)
 refine ar ?_
 refine ar ?_
 refine xs (λh15=>?_) λh15=>?_
 refine da ?_
 exact wJ []
 refine cb ?_
 exact wJ []
 refine ar ?_
 refine cb ?_
 exact wJ []
 refine ar ?_
 refine cT [4,5,7,9] [(14,λb16=>.own 4 0 b16.length)] [0,1,2,3] [] [(4,λb16=>aO 5 (b16.map Inc.c))] 5 (λz17=>?_) λb16=>?_
 refine xa λv18 hv18=>?_
 refine ar ?_
 refine xx (QU 14 5 Od rfl) ?_
 refine lP [4,5,7,9,11,67,68] [(14,λs21=>.own 4 0 s21.1.length),(69,λs21=>DI s21.2)] [0,1,2,3] [] [(4,λs21=>aO 5 (s21.1.map Inc.c))] 5 λs21 y22 hq22=>?_
 refine ar ?_
 refine sq λK k=>?_
 refine xs (λh24=>?_) λh24=>?_
 refine ca ?_
 refine sq λK k=>?_
 refine au ?_
 refine xa λv26 hv26=>?_
 refine ar ?_
 refine xs (λh27=>?_) λh27=>?_
 refine ar ?_
 refine ca ?_
 refine xc λh28=>?_
 refine ar ?_
 refine goA (Qk (c:=Inc.c) ([v26]:List Inc) i46.ok i49.ok) ?_
 refine goA (QT (c:=Inc.c) s21.1 [v26] h28 i46.ok i49.ok rfl rfl (.own rfl rfl Os (Qf (c:=Inc.c) (λ_=>rfl) _)) rfl) ?_
 refine au ?_
 refine ar ?_
 exact wJ [(4,7)]
 refine ar ?_
 refine xs (λh29=>?_) λh29=>?_
 refine ca ?_
 refine xc λh30=>?_
 refine ar ?_
 refine goA (Qk (c:=Inc.c) ([v26]:List Inc) i46.ok i49.ok) ?_
 refine goA (QT (c:=Inc.c) s21.1 [v26] h30 i46.ok i49.ok rfl rfl (.own rfl rfl Os (Qf (c:=Inc.c) (λ_=>rfl) _)) rfl) ?_
 refine au ?_
 refine ar ?_
 exact wJ [(4,7)]
 refine db ?_
 exact wJ []
 refine cb ?_
 refine xo hq22 ?_
 exact wJ []
 refine sq λK k=>?_
 refine ar ?_
 refine xs (λh32=>?_) λh32=>?_
 refine da ?_
 refine xx (QU 8 5 Od rfl) ?_
 exact ftwt [(0,5)]
 refine db ?_
 refine xd λv33 hv33=>?_
 refine xa λv34 hv34=>?_
 have q0:=cS r0 (Xe hv33)
 refine ar ?_
 refine cT [7,9] [(17,λb35=>.own 6 0 b35.length)] [2,3] [] [(6,λb35=>aO 5 (b35.map Inc.c))] 7 (λz36=>?_) λb35=>?_
 refine ar ?_
 refine xx (QU 17 5 Od rfl) ?_
 refine lP [5,7,9,19,104] [(17,λs39=>.own 6 0 s39.1.length),(18,λs39=>DI s39.2.1),(103,λs39=>.own 4 0 b16.length),(105,λs39=>DI s39.2.2)] [1,2,3,4] [] [(6,λs39=>aO 5 (s39.1.map Inc.c))] 7 λs39 y40 hq40=>?_
 refine ar ?_
 refine sq λK k=>?_
 refine xs (λh42=>?_) λh42=>?_
 refine ca ?_
 refine sq λK k=>?_
 refine au ?_
 refine xa λv44 hv44=>?_
 refine ar ?_
 refine xd λv45 hv45=>?_
 replace q0:=cS r0 (Q9 hv45)
 refine ar ?_
 refine sq λK k=>?_
 refine xs (λh47=>?_) λh47=>?_
 refine ar ?_
 refine ca ?_
 refine xo hq40 ?_
 exact wJ []
 refine xs (λh48=>?_) λh48=>?_
 refine ar ?_
 refine cb ?_
 refine xc λh49=>?_
 refine ar ?_
 refine goA (Qk (c:=Inc.c) ([v44]:List Inc) i46.ok i49.ok) ?_
 refine goA (QT (c:=Inc.c) s39.1 [v44] h49 i46.ok i49.ok rfl rfl (.own rfl rfl Os (Qf (c:=Inc.c) (λ_=>rfl) _)) rfl) ?_
 refine au ?_
 refine ar ?_
 exact wJ [(6,9)]
 refine ar ?_
 refine xs (λh50=>?_) λh50=>?_
 refine ca ?_
 refine xo hq40 ?_
 exact wJ []
 refine cb ?_
 refine xc λh51=>?_
 refine ar ?_
 refine goA (Qk (c:=Inc.c) ([v44]:List Inc) i46.ok i49.ok) ?_
 refine goA (QT (c:=Inc.c) s39.1 [v44] h51 i46.ok i49.ok rfl rfl (.own rfl rfl Os (Qf (c:=Inc.c) (λ_=>rfl) _)) rfl) ?_
 refine au ?_
 refine ar ?_
 exact wJ [(6,9)]
 refine cb ?_
 refine xo hq40 ?_
 exact wJ []
 refine ar ?_
 exact ftwt [(0,6)]
noncomputable def Zw(p0:Sp)(p1:List Qe)(p2:List Inc):Option (List Int×Int) :=
 (Zp p0 p2).bind λv1 =>
 (Jy p1 v1).bind λv2 =>
 (Qi (λ(s7:List Int×Int) =>
 if s7.2 < (v2.1.length:Int) then
 ((at_ v2.1 s7.2).bind λv12 =>
 if v12 < (p0.ws.length:Int) then
 ((at_ p0.ws v12).bind λv14 =>
 (Zo p0 p2 v14).bind λv15 =>
 if v15=true then
 (if ((s7.1.length:Int)+[v12].length) * 8<=140737488355328/\(s7.1.length:Int)+[v12].length<=9223372036854775807 then
 some (.go ((s7.1++[v12],w64 (s7.2+1))))
 else none)
 else
 some (.go ((s7.1,w64 (s7.2+1)))))
 else
 some (.go ((s7.1,w64 (s7.2+1)))))
 else
 some (.out (s7.1))) (([]:List Int),0)).bind λ(b3:List Int) =>
 some ((b3,v2.2))
theorem Qae{p0 p1 p2 r}:Sm (Zw p0 p1 p2) r->DCall Tryz.prog 24 [.agg [DI p0.sh,.sl (p0.ws.map uC),.sl (p0.fs.map frC)],.sl (p1.map Qe.c),.sl (p2.map Inc.c)] [] (.tup [.own 0 0 r.1.length,DI r.2]) [(0,aO 1 (r.1.map iC))]:=by
 unfold Zw
 refine mk0 Tryz.func24 ?_
 refine ar ?_
 refine xd λv1 hv1=>?_
 refine xd λv2 hv2=>?_
 have q0:=cS r0 (Qaw hv1)
 have q1:=cG r0 (QeO hv2)
 refine ar ?_
 refine ar ?_
 refine cT [9] [(10,λb3=>.own 2 0 b3.length)] [] [] [(2,λb3=>aO 1 (b3.map iC))] 3 (λz4=>?_) λb3=>?_
 refine ar ?_
 refine xx (QU 10 1 Od rfl) ?_
 refine lP [2,9,21,22] [(3,λs7=>.ptr 0 0 0),(10,λs7=>.own 2 0 s7.1.length),(23,λs7=>DI s7.2)] [0] [] [(2,λs7=>aO 1 (s7.1.map iC))] 3 λs7 y8 hq8=>?_
 refine ar ?_
 refine sq λK k=>?_
 refine xs (λh10=>?_) λh10=>?_
 refine ca ?_
 refine sq λK k=>?_
 refine au ?_
 refine xa λv12 hv12=>?_
 refine ar ?_
 refine xs (λh13=>?_) λh13=>?_
 refine xa λv14 hv14=>?_
 refine xd λv15 hv15=>?_
 replace q0:=cS r0 (Jn hv15)
 refine ar ?_
 refine xs (λh16=>?_) λh16=>?_
 refine ca ?_
 refine xc λh17=>?_
 refine ar ?_
 refine goA (Qk (c:=iC) ([v12]:List Int) i22.ok i3.ok) ?_
 refine goA (QT (c:=iC) s7.1 [v12] h17 i22.ok i3.ok rfl rfl (.own rfl rfl Os (Qf (c:=iC) (λ_=>rfl) _)) rfl) ?_
 refine au ?_
 refine ar ?_
 exact wJ [(2,4)]
 refine db ?_
 exact wJ []
 refine ar ?_
 refine db ?_
 exact wJ []
 refine cb ?_
 refine xo hq8 ?_
 exact wJ []
 refine ar ?_
 exact ftt [(0,2)]
noncomputable def Q5(p0:Sp)(p1:Int):Option (List Int×Int) :=
 (Q4 p0 p1).bind λv1 =>
 if v1.2.2=0 then
 ((Qi (λ(s8:List Int×Int) =>
 if s8.2 < v1.1 then
 ((QB p0 p1 (w64 (1+s8.2))).bind λv13 =>
 if ((s8.1.length:Int)+[v13.1].length) * 8<=140737488355328/\(s8.1.length:Int)+[v13.1].length<=9223372036854775807 then
 some (.go ((s8.1++[v13.1],w64 (s8.2+1))))
 else none)
 else
 some (.out (s8.1))) (([]:List Int),0)).bind λ(b4:List Int) =>
 some ((b4,0)))
 else
 some ((([]:List Int),v1.2.2))
theorem QaB{p0 p1 r}:Sm (Q5 p0 p1) r->DCall Tryz.prog 19 [.agg [DI p0.sh,.sl (p0.ws.map uC),.sl (p0.fs.map frC)],DI p1] [] (.tup [.own 0 0 r.1.length,DI r.2]) [(0,aO 1 (r.1.map iC))]:=by
 unfold Q5
 refine mk0 Tryz.func19 ?_
 refine ar ?_
 refine xd λv1 hv1=>?_
 have q0:=cS r0 (Xb hv1)
 refine ar ?_
 refine sq λK k=>?_
 refine ar ?_
 refine xs (λh3=>?_) λh3=>?_
 refine db ?_
 refine cT [] [(9,λb4=>.own 1 0 b4.length)] [] [] [(1,λb4=>aO 1 (b4.map iC))] 2 (λz5=>?_) λb4=>?_
 refine ar ?_
 refine xx (QU 9 1 Od rfl) ?_
 refine lP [1,6] [(2,λs8=>.ptr 0 0 0),(9,λs8=>.own 1 0 s8.1.length),(10,λs8=>DI s8.2)] [0] [] [(1,λs8=>aO 1 (s8.1.map iC))] 2 λs8 y9 hq9=>?_
 refine sq λK k=>?_
 refine ar ?_
 refine xs (λh11=>?_) λh11=>?_
 refine ca ?_
 refine sq λK k=>?_
 refine au ?_
 refine xd λv13 hv13=>?_
 replace q0:=cS r0 (QG hv13)
 refine ar ?_
 refine xc λh14=>?_
 refine ar ?_
 refine goA (Qk (c:=iC) ([v13.1]:List Int) i22.ok i3.ok) ?_
 refine goA (QT (c:=iC) s8.1 [v13.1] h14 i22.ok i3.ok rfl rfl (.own rfl rfl Os (Qf (c:=iC) (λ_=>rfl) _)) rfl) ?_
 refine au ?_
 refine ar ?_
 exact wJ [(1,3)]
 refine cb ?_
 refine xo hq9 ?_
 exact wJ []
 refine ar ?_
 exact ftt [(0,1)]
 refine da ?_
 refine xx (QU 4 1 Od rfl) ?_
 exact ftt [(0,1)]
noncomputable def Q3(p0:Sp)(p1:List Qe)(p2:Int)(p3:Int):Option (List Qe) :=
 (XI p0 p2 p3).bind λv1 =>
 if v1.2.2=true then
 ((Jo p1 v1.1 v1.2.1 p2).bind λv4 =>
 some (v4))
 else
 some (p1)
theorem QeN{p0 p1 p2 p3 r}:Sm (Q3 p0 p1 p2 p3) r->DCall Tryz.prog 119 [.agg [DI p0.sh,.sl (p0.ws.map uC),.sl (p0.fs.map frC)],.sl (p1.map Qe.c),DI p2,DU p3] [] (.sl (r.map Qe.c)) []:=by
 unfold Q3
 refine mk0 Tryz.func119 ?_
 refine ar ?_
 refine xd λv1 hv1=>?_
 have q0:=cS r0 (Qbw hv1)
 refine ar ?_
 refine sq λK k=>?_
 refine ar ?_
 refine xs (λh3=>?_) λh3=>?_
 refine cb ?_
 refine xd λv4 hv4=>?_
 replace q0:=cG r0 (QbW hv4)
 refine ar ?_
 exact ft r0
 refine da ?_
 exact ft r0
noncomputable def ZS(p0:Sp)(p1:List Qe)(p2:Int)(p3:Int):Option (List Qe×List Int×List Fe) :=
 (XI p0 p2 p3).bind λv1 =>
 if v1.2.2=true then
 ((Jo p1 v1.1 v1.2.1 p2).bind λv4 =>
 some ((v4,p0.ws,p0.fs)))
 else
 some ((p1,p0.ws,p0.fs))
theorem Qay{p0 p1 p2 p3 r}:Sm (ZS p0 p1 p2 p3) r->DCall Tryz.prog 119 [.agg [DI p0.sh,.own 0 0 p0.ws.length,.own 1 0 p0.fs.length],.sl (p1.map Qe.c),DI p2,DU p3] [(0,aO 1 (p0.ws.map uC)),(1,aO 3 (p0.fs.map frC))] (.sl (r.1.map Qe.c)) [(0,aO 1 (r.2.1.map uC)),(1,aO 3 (r.2.2.map frC))]:=by
 unfold ZS
 refine mk0 Tryz.func119 ?_
 refine ar ?_
 refine xd λv1 hv1=>?_
 have q0:=cS r0 (Qbw hv1)
 refine ar ?_
 refine sq λK k=>?_
 refine ar ?_
 refine xs (λh3=>?_) λh3=>?_
 refine cb ?_
 refine xd λv4 hv4=>?_
 replace q0:=cG r0 (QbW hv4)
 refine ar ?_
 exact ft r2
 refine da ?_
 exact ft r2
noncomputable def Xr(p0:Hp):Option (Hp×List Int×List Fe) :=
 if (p0.config.rules.length:Int) * 32<=140737488355328/\(p0.config.rules.length:Int)<=9223372036854775807 then
 (XR p0.space).bind λv2 =>
 (QS p0.belts).bind λv3 =>
 (ZA p0.sets).bind λv4 =>
 (Zz p0.roots).bind λv5 =>
 some ((Hp.mk p0.config v2 v3 p0.seq v4 v5 p0.since p0.stats p0.dead,p0.space.ws,p0.space.fs))
 else none
theorem Qc7{p0 r}:Sm (Xr p0) r->DCall Tryz.prog 78 [.agg [.lit (.string p0.config.name),.sl (p0.config.rules.map Rul.c),DI p0.config.full,DI p0.space.sh,.own 0 0 p0.space.ws.length,.own 1 0 p0.space.fs.length,.sl (p0.belts.map (lC Inc.c)),DI p0.seq,.sl (p0.sets.map Qe.c),.sl (p0.roots.used.map bC),.sl (p0.roots.refs.map uC),DI p0.since,DI p0.stats.allocated,DI p0.stats.objects,DI p0.stats.collections,DI p0.stats.steps,DI p0.stats.rounds,DI p0.stats.condemned,DI p0.stats.copied,DI p0.stats.entries,DI p0.stats.work,DB p0.dead]] [(0,aO 1 (p0.space.ws.map uC)),(1,aO 3 (p0.space.fs.map frC))] (.agg [.lit (.string r.1.config.name),.own 2 0 r.1.config.rules.length,DI r.1.config.full,DI r.1.space.sh,.own 3 0 r.1.space.ws.length,.own 4 0 r.1.space.fs.length,.own 5 0 r.1.belts.length,DI r.1.seq,.own 6 0 r.1.sets.length,.own 7 0 r.1.roots.used.length,.own 8 0 r.1.roots.refs.length,DI r.1.since,DI r.1.stats.allocated,DI r.1.stats.objects,DI r.1.stats.collections,DI r.1.stats.steps,DI r.1.stats.rounds,DI r.1.stats.condemned,DI r.1.stats.copied,DI r.1.stats.entries,DI r.1.stats.work,DB r.1.dead]) [(0,aO 1 (r.2.1.map uC)),(1,aO 3 (r.2.2.map frC)),(2,aO 4 (r.1.config.rules.map Rul.c)),(3,aO 1 (r.1.space.ws.map uC)),(4,aO 3 (r.1.space.fs.map frC)),(5,aO 1 (r.1.belts.map (lC Inc.c))),(6,aO 3 (r.1.sets.map Qe.c)),(7,aO 1 (r.1.roots.used.map bC)),(8,aO 1 (r.1.roots.refs.map uC))]:=by
 unfold Xr
 refine mk0 Tryz.func78 ?_
 refine ar ?_
 refine ar ?_
 refine xc λh1=>?_
 refine ar ?_
 refine goA (Qbi (c:=Rul.c) p0.config.rules h1 i23.ok J5.ok rfl (.sl rfl (Qf (c:=Rul.c) (λ_=>rfl) _))) ?_
 refine au ?_
 refine xd λv2 hv2=>?_
 have q0:=cS r0 (QbC hv2)
 refine ar ?_
 refine xd λv3 hv3=>?_
 replace q0:=cG r0 (Zx hv3)
 refine ar ?_
 refine xx (Qt (Qb1 (s:=8) (xs:=v3) (cd:=(lD 5 Inc.c)) rfl (λ_=>rfl))) ?_
 refine xx (Qt (ZJ.flat (s:=8) (c:=(lC Inc.c)) rfl (λ_=>rfl) (λ_=>rfl))) ?_
 refine xd λv4 hv4=>?_
 replace q0:=cG r0 (X6 hv4)
 refine ar ?_
 refine xd λv5 hv5=>?_
 replace q0:=cS r0 (X5 hv5)
 refine ar ?_
 refine ar ?_
 exact fw [(0,0),(1,1),(2,5),(3,6),(4,7),(5,8),(6,9),(7,10),(8,11)]
noncomputable def Jx(p0:Rts)(p1:Int):Option (Rts×Int) :=
 (X3 p0 p1).bind λv2 =>
 if v2=0 then
 ((Zz p0).bind λv4 =>
 (at_ v4.used (w64 (p1 - 1))).bind λv5 =>
 (at_ v4.refs (w64 (p1 - 1))).bind λv6 =>
 some ((Rts.mk (v4.used.set (Int.toNat (w64 (p1 - 1))) false) (v4.refs.set (Int.toNat (w64 (p1 - 1))) 0),0)))
 else
 some ((Rts.mk ([]:List Bool) ([]:List Int),v2))
theorem QeM{p0 p1 r}:Sm (Jx p0 p1) r->DCall Tryz.prog 141 [.agg [.sl (p0.used.map bC),.sl (p0.refs.map uC)],DI p1] [] (.tup [.agg [.own 0 0 r.1.used.length,.own 1 0 r.1.refs.length],DI r.2]) [(0,aO 1 (r.1.used.map bC)),(1,aO 1 (r.1.refs.map uC))]:=by
 unfold Jx
 refine mk0 Tryz.func141 ?_
 refine ar ?_
 refine sq λK k=>?_
 refine xd λv2 hv2=>?_
 have q0:=cS r0 (Qdv hv2)
 refine ar ?_
 refine ar ?_
 refine xs (λh3=>?_) λh3=>?_
 refine cb ?_
 refine xd λv4 hv4=>?_
 replace q0:=cS r0 (X5 hv4)
 refine ar ?_
 refine xa λv5 hv5=>?_
 refine xa λv6 hv6=>?_
 refine ar ?_
 refine goA (Z2 (c:=bC) hv5.h false i4.ok) ?_
 refine au ?_
 refine goA (Z2 (c:=uC) hv6.h 0 i62.ok) ?_
 refine au ?_
 refine ar ?_
 exact fwt [(0,2),(1,3)]
 refine da ?_
 refine xx (Qg 1 0 1 Od rfl rfl) ?_
 refine xx (Qg 1 1 1 Od rfl rfl) ?_
 exact fwt [(0,2),(1,3)]
noncomputable def ZG(p0:Sp)(p1:Int)(p2:Int)(p3:Bool):Option (Int×Int) :=
 (Q4 p0 p1).bind λv1 =>
 if v1.2.2=0 then
 (if p3=true then
 (if p2 < 0 then
 (some ((0,17)))
 else
 if v1.1<=p2 then
 (some ((0,17)))
 else
 (QB p0 p1 (w64 (1+p2))).bind λv9 =>
 some ((v9.1,v9.2)))
 else
 if p2 < 0 then
 (some ((0,17)))
 else
 if v1.2.1<=p2 then
 (some ((0,17)))
 else
 (QB p0 p1 (w64 ((w64 (1+v1.1))+p2))).bind λv13 =>
 some ((v13.1,v13.2)))
 else
 some ((0,v1.2.2))
theorem JF{p0 p1 p2 p3 r}:Sm (ZG p0 p1 p2 p3) r->DCall Tryz.prog 179 [.agg [DI p0.sh,.sl (p0.ws.map uC),.sl (p0.fs.map frC)],DI p1,DI p2,DB p3] [] (.tup [DI r.1,DI r.2]) []:=by
 unfold ZG
 refine mk0 Tryz.func179 ?_
 refine ar ?_
 refine xd λv1 hv1=>?_
 have q0:=cS r0 (Xb hv1)
 refine ar ?_
 refine sq λK k=>?_
 refine ar ?_
 refine xs (λh3=>?_) λh3=>?_
 refine db ?_
 refine sq λK k=>?_
 refine ar ?_
 refine xs (λh5=>?_) λh5=>?_
 refine da ?_
 refine sq λK k=>?_
 refine xs (λh7=>?_) λh7=>?_
 refine ar ?_
 refine da ?_
 exact ftt r0
 refine ar ?_
 refine xs (λh8=>?_) λh8=>?_
 refine da ?_
 exact ftt r0
 refine cb ?_
 refine xd λv9 hv9=>?_
 replace q0:=cS r0 (QG hv9)
 refine ar ?_
 exact ftt r0
 refine cb ?_
 refine sq λK k=>?_
 refine xs (λh11=>?_) λh11=>?_
 refine ar ?_
 refine da ?_
 exact ftt r0
 refine ar ?_
 refine xs (λh12=>?_) λh12=>?_
 refine da ?_
 exact ftt r0
 refine cb ?_
 refine xd λv13 hv13=>?_
 replace q0:=cS r0 (QG hv13)
 refine ar ?_
 exact ftt r0
 refine da ?_
 exact ftt r0
noncomputable def JZ(p0:Sp)(p1:Inc):Option (List Int×Int) :=
 bndR (Qi (λ(s5:List Int×Int) =>
 if s5.2 < p1.words then
 (if 0<=wu p0.sh then
 (QB p0 (Qcq .i64 p1.first (wu p0.sh)) s5.2).bind λv10 =>
 (Q4 p0 v10.1).bind λv11 =>
 if v11.2.2=0 then
 (if p1.words < (w64 ((w64 ((w64 (s5.2+1))+v11.1))+v11.2.1)) then
 (some (.out (.inr ((([]:List Int),12)))))
 else
 if ((s5.1.length:Int)+[v10.1].length) * 8<=140737488355328/\(s5.1.length:Int)+[v10.1].length<=9223372036854775807 then
 some (.go ((s5.1++[v10.1],w64 (s5.2+(w64 ((w64 (1+v11.1))+v11.2.1))))))
 else none)
 else
 some (.out (.inr ((([]:List Int),12))))
 else none)
 else
 some (.out (.inl (s5.1)))) (([]:List Int),0)) λ(b1:List Int) =>
 some ((b1,0))
theorem F_ref10_All_ok{p0 p1 r}:Sm (JZ p0 p1) r->DCall Tryz.prog 18 [.agg [DI p0.sh,.sl (p0.ws.map uC),.sl (p0.fs.map frC)],.agg [DI p1.seq,DI p1.belt,DI p1.first,DI p1.last,DI p1.words]] [] (.tup [.own 0 0 r.1.length,DI r.2]) [(0,aO 1 (r.1.map iC))]:=by
 unfold JZ
 refine mk0 Tryz.func18 ?_
 refine ar ?_
 refine ar ?_
 refine cU [] [(6,λb1=>.own 2 0 b1.length)] [] [] [(2,λb1=>aO 1 (b1.map iC))] 3 (λz2 hr2=>?_) λb1=>?_
 refine ar ?_
 refine xx (QU 6 1 Od rfl) ?_
 refine lP [] [(2,λs5=>.ptr 0 0 0),(3,λs5=>.ptr 1 0 0),(6,λs5=>.own 2 0 s5.1.length),(7,λs5=>DI s5.2)] [0,1] [] [(2,λs5=>aO 1 (s5.1.map iC))] 3 λs5 y6 hq6=>?_
 refine sq λK k=>?_
 refine ar ?_
 refine xs (λh8=>?_) λh8=>?_
 refine ca ?_
 refine xc λh9=>?_
 refine xd λv10 hv10=>?_
 have q0:=cS r0 (QG hv10)
 refine ar ?_
 refine xd λv11 hv11=>?_
 replace q0:=cS r0 (Xb hv11)
 refine ar ?_
 refine sq λK k=>?_
 refine xs (λh13=>?_) λh13=>?_
 refine ar ?_
 refine xs (λh14=>?_) λh14=>?_
 refine da ?_
 refine xx (QU 4 1 Od rfl) ?_
 refine xo hq6 ?_
 refine xr hr2 ?_
 exact ftt [(0,3)]
 refine cb ?_
 refine xc λh15=>?_
 refine ar ?_
 refine goA (Qk (c:=iC) ([v10.1]:List Int) i22.ok i3.ok) ?_
 refine goA (QT (c:=iC) s5.1 [v10.1] h15 i22.ok i3.ok rfl rfl (.own rfl rfl Os (Qf (c:=iC) (λ_=>rfl) _)) rfl) ?_
 refine au ?_
 refine ar ?_
 exact wJ [(2,4)]
 refine ar ?_
 refine da ?_
 refine xx (QU 4 1 Od rfl) ?_
 refine xo hq6 ?_
 refine xr hr2 ?_
 exact ftt [(0,3)]
 refine cb ?_
 refine xo hq6 ?_
 exact wJ []
 refine ar ?_
 exact ftt [(0,2)]
noncomputable def Qas(p0:Gra)(p1:AOp):Option (Gra×Ans) :=
 (Jv p0).bind λv1 =>
 bndR (if p1.code=1 then
 (if p1.a < 0 then
 ((Qs p0 13).bind λv7 =>
 some (.inr ((v7.1,v7.2))))
 else
 if 15 < p1.a then
 ((Qs p0 13).bind λv9 =>
 some (.inr ((v9.1,v9.2))))
 else
 if p1.b < 0 then
 ((Qs p0 13).bind λv11 =>
 some (.inr ((v11.1,v11.2))))
 else
 if 32 < p1.b then
 ((Qs p0 13).bind λv13 =>
 some (.inr ((v13.1,v13.2))))
 else
 (XF p0).bind λv14 =>
 if v14=0 then
 ((Qs p0 15).bind λv17 =>
 some (.inr ((v17.1,v17.2))))
 else
 if 0<=p1.b/\p1.b * 8<=281474976710656/\p1.b<=9223372036854775807 then
 (Qi (λ(s23:List Int×Int) =>
 if s23.2 < p1.a then
 (if ((s23.1.length:Int)+[(-1)].length) * 8<=140737488355328/\(s23.1.length:Int)+[(-1)].length<=9223372036854775807 then
 some (.go ((s23.1++[(-1)],w64 (s23.2+1))))
 else none)
 else
 some (.out (s23.1))) (([]:List Int),0)).bind λ(b19:List Int) =>
 if ((v1.nodes.length:Int)+1) * 48<=140737488355328/\(v1.nodes.length:Int)+1<=9223372036854775807 then
 (at_ v1.used (w64 (v14 - 1))).bind λv30 =>
 (at_ v1.roots (w64 (v14 - 1))).bind λv31 =>
 some (.inr ((Gra.mk (v1.nodes++[Nod.mk b19 (List.replicate (Int.toNat p1.b) (0:Int))]) (v1.used.set (Int.toNat (w64 (v14 - 1))) true) (v1.roots.set (Int.toNat (w64 (v14 - 1))) (w64 (((v1.nodes++[Nod.mk b19 (List.replicate (Int.toNat p1.b) (0:Int))]).length:Int) - 1))),Ans.mk 0 (wu v14))))
 else none
 else none)
 else
 if p1.code=8 then
 (some (.inr ((v1,Ans.mk 0 0))))
 else
 if p1.code=10 then
 ((Ju p0).bind λv34 =>
 some (.inr ((v1,Ans.mk 0 (wu v34)))))
 else
 if p1.code=6 then
 ((Q1 p0 p1.a false).bind λv37 =>
 if v37=0 then
 ((Q1 p0 p1.b false).bind λv40 =>
 if v40=0 then
 ((Q0 p0 p1.a).bind λv43 =>
 (Q0 p0 p1.b).bind λv44 =>
 if v43=v44 then
 (some (.inr ((v1,Ans.mk 0 1))))
 else
 some (.inr ((v1,Ans.mk 0 0))))
 else
 (Qs p0 v40).bind λv46 =>
 some (.inr ((v46.1,v46.2))))
 else
 (Qs p0 v37).bind λv47 =>
 some (.inr ((v47.1,v47.2))))
 else
 if p1.code=7 then
 (some (.inl (())))
 else
 if p1.code=9 then
 (some (.inl (())))
 else
 if p1.code=2 then
 (some (.inl (())))
 else
 if p1.code=3 then
 (some (.inl (())))
 else
 if p1.code=4 then
 (some (.inl (())))
 else
 if p1.code=5 then
 (some (.inl (())))
 else
 (Qs p0 20).bind λv55 =>
 some (.inr ((v55.1,v55.2)))) λ(b2:Unit) =>
 (Q1 p0 p1.a true).bind λv57 =>
 if v57=0 then
 ((Q0 p0 p1.a).bind λv59 =>
 (at_ p0.nodes v59).bind λv60 =>
 if p1.code=7 then
 ((at_ v1.used (w64 (p1.a - 1))).bind λv63 =>
 (at_ v1.roots (w64 (p1.a - 1))).bind λv64 =>
 some ((Gra.mk v1.nodes (v1.used.set (Int.toNat (w64 (p1.a - 1))) false) (v1.roots.set (Int.toNat (w64 (p1.a - 1))) (-1)),Ans.mk 0 0)))
 else
 if p1.code=9 then
 (some ((v1,Ans.mk 0 (wu (w64 ((w64 (256 * (v60.refs.length:Int)))+(v60.data.length:Int)))))))
 else
 (if p1.code=2 then
 (some ((v60.refs.length:Int)))
 else
 if p1.code=3 then
 (some ((v60.refs.length:Int)))
 else
 some ((v60.data.length:Int))).bind λ(b66:Int) =>
 if p1.b < 0 then
 ((Qs p0 17).bind λv72 =>
 some ((v72.1,v72.2)))
 else
 if b66<=p1.b then
 ((Qs p0 17).bind λv74 =>
 some ((v74.1,v74.2)))
 else
 if p1.code=4 then
 ((at_ v60.data p1.b).bind λv77 =>
 some ((v1,Ans.mk 0 v77)))
 else
 if p1.code=5 then
 ((Q0 p0 p1.a).bind λv79 =>
 (at_ v1.nodes v79).bind λv80 =>
 (at_ v80.data p1.b).bind λv81 =>
 some ((Gra.mk (v1.nodes.set (Int.toNat v79) (Nod.mk v80.refs (v80.data.set (Int.toNat p1.b) (wu p1.c_)))) v1.used v1.roots,Ans.mk 0 0)))
 else
 if p1.code=3 then
 ((Q1 p0 p1.c_ false).bind λv84 =>
 if v84=0 then
 ((Q0 p0 p1.a).bind λv86 =>
 (at_ v1.nodes v86).bind λv87 =>
 (Q0 p0 p1.c_).bind λv88 =>
 (at_ v87.refs p1.b).bind λv89 =>
 some ((Gra.mk (v1.nodes.set (Int.toNat v86) (Nod.mk (v87.refs.set (Int.toNat p1.b) v88) v87.data)) v1.used v1.roots,Ans.mk 0 0)))
 else
 (Qs p0 v84).bind λv90 =>
 some ((v90.1,v90.2)))
 else
 (at_ v60.refs p1.b).bind λv91 =>
 if v91=(-1) then
 (some ((v1,Ans.mk 0 0)))
 else
 (XF p0).bind λv94 =>
 if v94=0 then
 ((Qs p0 15).bind λv97 =>
 some ((v97.1,v97.2)))
 else
 (at_ v1.used (w64 (v94 - 1))).bind λv98 =>
 (at_ v1.roots (w64 (v94 - 1))).bind λv99 =>
 some ((Gra.mk v1.nodes (v1.used.set (Int.toNat (w64 (v94 - 1))) true) (v1.roots.set (Int.toNat (w64 (v94 - 1))) v91),Ans.mk 0 (wu v94))))
 else
 (Qs p0 v57).bind λv100 =>
 some ((v100.1,v100.2))
theorem F_ref29_Do_ok{p0 p1 r}:Sm (Qas p0 p1) r->DCall Tryz.prog 89 [.agg [.sl (p0.nodes.map Nod.c),.sl (p0.used.map bC),.sl (p0.roots.map iC)],.agg [DI p1.code,DI p1.a,DI p1.b,DI p1.c_]] [] (.tup [.agg [.sl (r.1.nodes.map Nod.c),.sl (r.1.used.map bC),.sl (r.1.roots.map iC)],.agg [DI r.2.err,DU r.2.value]]) []:=by
 unfold Qas
 refine mk0 Tryz.func89 ?_
 refine ar ?_
 refine xd λv1 hv1=>?_
 have q0:=cG r0 (QeJ hv1)
 refine ar ?_
 refine xx (Qt (Qb1 (s:=4) (xs:=v1.nodes) (cd:=Nod.d) rfl (λ_=>rfl))) ?_
 refine cU [] [(2,λb2=>.ptr 0 0 0),(3,λb2=>.ptr 1 0 0),(4,λb2=>.ptr 2 0 0),(5,λb2=>.ptr 3 0 0),(6,λb2=>.ptr 7 0 0)] [0,1,2,3,5,6] [] [(4,λb2=>⟨2,false,false,v1.nodes.map Nod.d⟩),(7,λb2=>bO 3 [.own 4 0 v1.nodes.length,.own 5 0 v1.used.length,.own 6 0 v1.roots.length])] 8 (λz3 hr3=>?_) λb2=>?_
 refine ar ?_
 refine ar ?_
 refine xs (λh4=>?_) λh4=>?_
 refine ca ?_
 refine sq λK k=>?_
 refine xs (λh6=>?_) λh6=>?_
 refine ar ?_
 refine ca ?_
 refine xd λv7 hv7=>?_
 replace q0:=cG r0 (Qo hv7)
 refine ar ?_
 refine xr hr3 ?_
 exact fww r0
 refine xs (λh8=>?_) λh8=>?_
 refine ar ?_
 refine ca ?_
 refine xd λv9 hv9=>?_
 replace q0:=cG r0 (Qo hv9)
 refine ar ?_
 refine xr hr3 ?_
 exact fww r0
 refine xs (λh10=>?_) λh10=>?_
 refine ar ?_
 refine ca ?_
 refine xd λv11 hv11=>?_
 replace q0:=cG r0 (Qo hv11)
 refine ar ?_
 refine xr hr3 ?_
 exact fww r0
 refine ar ?_
 refine xs (λh12=>?_) λh12=>?_
 refine ca ?_
 refine xd λv13 hv13=>?_
 replace q0:=cG r0 (Qo hv13)
 refine ar ?_
 refine xr hr3 ?_
 exact fww r0
 refine cb ?_
 refine xd λv14 hv14=>?_
 replace q0:=cS r0 (Qbt hv14)
 refine ar ?_
 refine sq λK k=>?_
 refine ar ?_
 refine xs (λh16=>?_) λh16=>?_
 refine ca ?_
 refine xd λv17 hv17=>?_
 replace q0:=cG r0 (Qo hv17)
 refine ar ?_
 refine xr hr3 ?_
 exact fww r0
 refine cb ?_
 refine xc λh18=>?_
 refine ar ?_
 refine goA (Qeh (c:=uC) 0 h18 i26.ok i62.ok) ?_
 refine au ?_
 refine cT [7] [(4,λb19=>.ptr 2 0 0),(5,λb19=>.ptr 3 0 0),(6,λb19=>.ptr 7 0 0),(8,λb19=>.ptr 9 0 0)] [2,3,5,6,8] [] [(4,λb19=>⟨2,false,false,v1.nodes.map Nod.d⟩),(7,λb19=>bO 3 [.own 4 0 v1.nodes.length,.own 5 0 v1.used.length,.own 6 0 v1.roots.length]),(9,λb19=>bO 2 [.own 10 0 b19.length,.own 8 0 (List.replicate (Int.toNat p1.b) (0:Int)).length]),(10,λb19=>aO 1 (b19.map iC))] 11 (λz20=>?_) λb19=>?_
 refine ar ?_
 refine xx (Qg 9 0 1 Od rfl rfl) ?_
 refine lP [7] [(3,λs23=>.ptr 1 0 0),(4,λs23=>.ptr 2 0 0),(5,λs23=>.ptr 3 0 0),(6,λs23=>.ptr 7 0 0),(8,λs23=>.ptr 9 0 0),(9,λs23=>DI s23.2)] [1,2,3,5,6,8] [] [(4,λs23=>⟨2,false,false,v1.nodes.map Nod.d⟩),(7,λs23=>bO 3 [.own 4 0 v1.nodes.length,.own 5 0 v1.used.length,.own 6 0 v1.roots.length]),(9,λs23=>bO 2 [.own 10 0 s23.1.length,.own 8 0 (List.replicate (Int.toNat p1.b) (0:Int)).length]),(10,λs23=>aO 1 (s23.1.map iC))] 11 λs23 y24 hq24=>?_
 refine sq λK k=>?_
 refine ar ?_
 refine xs (λh26=>?_) λh26=>?_
 refine ca ?_
 refine sq λK k=>?_
 refine au ?_
 refine xc λh28=>?_
 refine ar ?_
 refine goA (Qk (c:=iC) ([(-1)]:List Int) i22.ok i3.ok) ?_
 refine goA (QT (c:=iC) s23.1 [(-1)] h28 i22.ok i3.ok rfl rfl (.own rfl rfl Os (Qf (c:=iC) (λ_=>rfl) _)) rfl) ?_
 refine au ?_
 refine ar ?_
 exact wJ [(10,12)]
 refine cb ?_
 refine xo hq24 ?_
 exact wJ []
 refine xc λh29=>?_
 refine ar ?_
 refine goA (m_litD [[.own 10 0 b19.length,.own 8 0 (List.replicate (Int.toNat p1.b) (0:Int)).length]] i39.ok i212.ok) ?_
 refine goA (m_apD (cd:=Nod.d) v1.nodes (Nod.mk b19 (List.replicate (Int.toNat p1.b) (0:Int))) [.own 10 0 b19.length,.own 8 0 (List.replicate (Int.toNat p1.b) (0:Int)).length] h29 i39.ok i212.ok rfl rfl (by first | rfl | omega | (simp;done) | (simp;omega)) rfl rfl rfl) ?_
 refine au ?_
 refine xx (Qt (attL (s:=12) (t:=10) (j:=0) (c:=iC) [.dp 1 (b19.map iC),.own 8 0 (List.replicate (Int.toNat p1.b) (0:Int)).length] rfl rfl rfl rfl rfl rfl)) ?_
 refine xx (Qt (attL (s:=12) (t:=8) (j:=1) (c:=uC) [.dp 1 (b19.map iC),.dp 1 ((List.replicate (Int.toNat p1.b) (0:Int)).map uC)] rfl rfl rfl rfl rfl rfl)) ?_
 refine xx (Qt (tellL (s:=12) (Nod.mk b19 (List.replicate (Int.toNat p1.b) (0:Int))) rfl rfl)) ?_
 refine xa λv30 hv30=>?_
 refine xa λv31 hv31=>?_
 refine ar ?_
 refine goA (Z2 (c:=bC) hv30.h true i4.ok) ?_
 refine au ?_
 refine goA (Z2 (c:=iC) hv31.h (w64 (((v1.nodes++[Nod.mk b19 (List.replicate (Int.toNat p1.b) (0:Int))]).length:Int) - 1)) i3.ok) ?_
 refine au ?_
 refine ar ?_
 refine xr hr3 ?_
 exact fww r0
 refine db ?_
 refine xs (λh32=>?_) λh32=>?_
 refine da ?_
 refine xr hr3 ?_
 exact fww r0
 refine db ?_
 refine xs (λh33=>?_) λh33=>?_
 refine ca ?_
 refine xd λv34 hv34=>?_
 replace q0:=cS r0 (QeI hv34)
 refine ar ?_
 refine xr hr3 ?_
 exact fww r0
 refine db ?_
 refine xs (λh35=>?_) λh35=>?_
 refine ca ?_
 refine sq λK k=>?_
 refine xd λv37 hv37=>?_
 replace q0:=cS r0 (Xi hv37)
 refine ar ?_
 refine ar ?_
 refine xs (λh38=>?_) λh38=>?_
 refine cb ?_
 refine sq λK k=>?_
 refine xd λv40 hv40=>?_
 replace q0:=cS r0 (Xi hv40)
 refine ar ?_
 refine ar ?_
 refine xs (λh41=>?_) λh41=>?_
 refine cb ?_
 refine sq λK k=>?_
 refine xd λv43 hv43=>?_
 refine xd λv44 hv44=>?_
 refine ar ?_
 refine goA (m_cS r0 (Zs hv43) rfl ScS.nil) ?_
 refine au ?_
 refine goA (m_cS r0 (Zs hv44) rfl ScS.nil) ?_
 refine au ?_
 refine xs (λh45=>?_) λh45=>?_
 refine da ?_
 refine xr hr3 ?_
 exact fww r0
 refine db ?_
 refine xr hr3 ?_
 exact fww r0
 refine ca ?_
 refine xd λv46 hv46=>?_
 replace q0:=cG r0 (Qo hv46)
 refine ar ?_
 refine xr hr3 ?_
 exact fww r0
 refine ca ?_
 refine xd λv47 hv47=>?_
 replace q0:=cG r0 (Qo hv47)
 refine ar ?_
 refine xr hr3 ?_
 exact fww r0
 refine cb ?_
 refine sq λK k=>?_
 refine ar ?_
 refine xs (λh49=>?_) λh49=>?_
 refine ca ?_
 refine ca ?_
 exact wJ []
 refine db ?_
 refine xs (λh50=>?_) λh50=>?_
 refine ca ?_
 refine ca ?_
 exact wJ []
 refine db ?_
 refine xs (λh51=>?_) λh51=>?_
 refine ca ?_
 refine ca ?_
 exact wJ []
 refine db ?_
 refine xs (λh52=>?_) λh52=>?_
 refine ca ?_
 refine ca ?_
 exact wJ []
 refine db ?_
 refine xs (λh53=>?_) λh53=>?_
 refine ca ?_
 refine ca ?_
 exact wJ []
 refine db ?_
 refine xs (λh54=>?_) λh54=>?_
 refine ca ?_
 exact wJ []
 refine cb ?_
 refine xd λv55 hv55=>?_
 replace q0:=cG r0 (Qo hv55)
 refine ar ?_
 refine xr hr3 ?_
 exact fww r0
 refine sq λK k=>?_
 refine xd λv57 hv57=>?_
 replace q0:=cS r0 (Xi hv57)
 refine ar ?_
 refine ar ?_
 refine xs (λh58=>?_) λh58=>?_
 refine cb ?_
 refine xd λv59 hv59=>?_
 refine xa λv60 hv60=>?_
 replace q0:=cS r0 (Zs hv59)
 refine ar ?_
 refine sq λK k=>?_
 refine ar ?_
 refine ar ?_
 refine xs (λh62=>?_) λh62=>?_
 refine ca ?_
 refine xa λv63 hv63=>?_
 refine xa λv64 hv64=>?_
 refine ar ?_
 refine goA (Z2 (c:=bC) hv63.h false i4.ok) ?_
 refine au ?_
 refine goA (Z2 (c:=iC) hv64.h (-1) i3.ok) ?_
 refine au ?_
 refine ar ?_
 exact fww r0
 refine db ?_
 refine xs (λh65=>?_) λh65=>?_
 refine da ?_
 exact fww r0
 refine db ?_
 refine cT [2,3,4,5,6] [(13,λb66=>.ptr 8 0 0),(14,λb66=>DI b66)] [0,1,2,3,4,5,6,7,8] [] [] 9 (λz67=>?_) λb66=>?_
 refine xs (λh68=>?_) λh68=>?_
 refine ar ?_
 refine da ?_
 exact wJ []
 refine ar ?_
 refine xs (λh69=>?_) λh69=>?_
 refine da ?_
 exact wJ []
 refine cb ?_
 exact wJ []
 refine sq λK k=>?_
 refine xs (λh71=>?_) λh71=>?_
 refine ar ?_
 refine ca ?_
 refine xd λv72 hv72=>?_
 replace q0:=cG r0 (Qo hv72)
 refine ar ?_
 exact fww r0
 refine ar ?_
 refine xs (λh73=>?_) λh73=>?_
 refine ca ?_
 refine xd λv74 hv74=>?_
 replace q0:=cG r0 (Qo hv74)
 refine ar ?_
 exact fww r0
 refine cb ?_
 refine sq λK k=>?_
 refine ar ?_
 refine ar ?_
 refine xs (λh76=>?_) λh76=>?_
 refine ca ?_
 refine xa λv77 hv77=>?_
 refine ar ?_
 exact fww r0
 refine db ?_
 refine xs (λh78=>?_) λh78=>?_
 refine ca ?_
 refine xd λv79 hv79=>?_
 refine xa λv80 hv80=>?_
 refine xa λv81 hv81=>?_
 replace q0:=cS r0 (Zs hv79)
 refine ar ?_
 refine goA (m_ldD (j:=1) (c:=uC) (ys:=v80.data) hv80 [.dp 1 (v80.refs.map iC),.own 9 0 v80.data.length] i26.ok rfl rfl) ?_
 refine au ?_
 refine goA (Z2 (c:=uC) hv81.h (wu p1.c_) i62.ok) ?_
 refine au ?_
 refine xx (Qt (attR (s:=4) (t:=9) (j:=1) (c:=uC) hv80 [.dp 1 (v80.refs.map iC),.dp 1 ((v80.data.set (Int.toNat p1.b) (wu p1.c_)).map uC)] rfl rfl rfl (by first | omega | (simp;done) | (simp;omega)) rfl rfl)) ?_
 refine xx (Qt (tellR (s:=4) (Nod.mk v80.refs (v80.data.set (Int.toNat p1.b) (wu p1.c_))) rfl rfl)) ?_
 refine ar ?_
 exact fww r0
 refine db ?_
 refine xs (λh82=>?_) λh82=>?_
 refine ca ?_
 refine sq λK k=>?_
 refine xd λv84 hv84=>?_
 replace q0:=cS r0 (Xi hv84)
 refine ar ?_
 refine ar ?_
 refine xs (λh85=>?_) λh85=>?_
 refine cb ?_
 refine xd λv86 hv86=>?_
 refine xa λv87 hv87=>?_
 refine xd λv88 hv88=>?_
 refine xa λv89 hv89=>?_
 refine ar ?_
 refine goA (m_cS r0 (Zs hv86) rfl ScS.nil) ?_
 refine au ?_
 refine goA (m_ldD (j:=0) (c:=iC) (ys:=v87.refs) hv87 [.own 9 0 v87.refs.length,.dp 1 (v87.data.map uC)] i22.ok rfl rfl) ?_
 refine au ?_
 refine goA (m_cS r0 (Zs hv88) rfl ScS.nil) ?_
 refine au ?_
 refine goA (Z2 (c:=iC) hv89.h v88 i3.ok) ?_
 refine au ?_
 refine xx (Qt (attR (s:=4) (t:=9) (j:=0) (c:=iC) hv87 [.dp 1 ((v87.refs.set (Int.toNat p1.b) v88).map iC),.dp 1 (v87.data.map uC)] rfl rfl rfl (by first | omega | (simp;done) | (simp;omega)) rfl rfl)) ?_
 refine xx (Qt (tellR (s:=4) (Nod.mk (v87.refs.set (Int.toNat p1.b) v88) v87.data) rfl rfl)) ?_
 refine ar ?_
 exact fww r0
 refine ca ?_
 refine xd λv90 hv90=>?_
 replace q0:=cG r0 (Qo hv90)
 refine ar ?_
 exact fww r0
 refine cb ?_
 refine xa λv91 hv91=>?_
 refine ar ?_
 refine sq λK k=>?_
 refine ar ?_
 refine xs (λh93=>?_) λh93=>?_
 refine da ?_
 exact fww r0
 refine cb ?_
 refine xd λv94 hv94=>?_
 replace q0:=cS r0 (Qbt hv94)
 refine ar ?_
 refine sq λK k=>?_
 refine ar ?_
 refine xs (λh96=>?_) λh96=>?_
 refine ca ?_
 refine xd λv97 hv97=>?_
 replace q0:=cG r0 (Qo hv97)
 refine ar ?_
 exact fww r0
 refine cb ?_
 refine xa λv98 hv98=>?_
 refine xa λv99 hv99=>?_
 refine ar ?_
 refine goA (Z2 (c:=bC) hv98.h true i4.ok) ?_
 refine au ?_
 refine goA (Z2 (c:=iC) hv99.h v91 i3.ok) ?_
 refine au ?_
 refine ar ?_
 exact fww r0
 refine ca ?_
 refine xd λv100 hv100=>?_
 replace q0:=cG r0 (Qo hv100)
 refine ar ?_
 exact fww r0
noncomputable def Jc :Option Bool :=
 if 0<=(16:Int)/\(16:Int) * 8<=281474976710656/\(16:Int)<=9223372036854775807 then
 (Xh (Sp.mk 3 (List.replicate (Int.toNat 16) (0:Int)) [Fe.mk 4 4 (-1),Fe.mk (-1) (-1) (-1)]) [Inc.mk 4 0 0 0 0]).bind λv2 =>
 if (v2.length:Int)=1 then
 ((at_ v2 0).bind λv4 =>
 if v4=0 then
 ((ZD (Sp.mk 3 (List.replicate (Int.toNat 16) (0:Int)) [Fe.mk 4 4 (-1),Fe.mk (-1) (-1) (-1)]) [Inc.mk 4 0 0 0 0] 3).bind λv6 =>
 if v6=true then
 ((ZD (Sp.mk 3 (List.replicate (Int.toNat 16) (0:Int)) [Fe.mk 4 4 (-1),Fe.mk (-1) (-1) (-1)]) [Inc.mk 4 0 0 0 0] 0).bind λv8 =>
 if v8=true then
 (some (false))
 else
 (ZD (Sp.mk 3 (List.replicate (Int.toNat 16) (0:Int)) [Fe.mk 4 4 (-1),Fe.mk (-1) (-1) (-1)]) [Inc.mk 4 0 0 0 0] 9).bind λv10 =>
 some (!v10))
 else
 some (false))
 else
 some (false))
 else
 some (false)
 else none
theorem QdC{r}:Sm (Jc) r->DCall Tryz.prog 16 [] [] (DB r) []:=by
 unfold Jc
 refine mk0 Tryz.func16 ?_
 refine ar ?_
 refine xc λh1=>?_
 refine ar ?_
 refine goA (Qeh (c:=uC) 0 h1 i26.ok i62.ok) ?_
 refine au ?_
 refine goA (Qk (c:=frC) ([Fe.mk 4 4 (-1),Fe.mk (-1) (-1) (-1)]:List Fe) i27.ok i53.ok) ?_
 refine au ?_
 refine ar ?_
 refine goA (Qk (c:=Inc.c) ([Inc.mk 4 0 0 0 0]:List Inc) i46.ok i49.ok) ?_
 refine au ?_
 refine xd λv2 hv2=>?_
 have q0:=cS r0 (Qa0 hv2)
 refine ar ?_
 refine xs (λh3=>?_) λh3=>?_
 refine xa λv4 hv4=>?_
 refine xs (λh5=>?_) λh5=>?_
 refine xd λv6 hv6=>?_
 refine xs (λh7=>?_) λh7=>?_
 refine xd λv8 hv8=>?_
 refine xs (λh9=>?_) λh9=>?_
 refine ar ?_
 refine go (m_cS r0 (Ze hv6) rfl ScS.nil) ?_ (gY (decide_eq_true h5))
 refine au ?_
 refine go (m_cS r0 (Ze hv8) rfl ScS.nil) ?_ (gY h7)
 refine au ?_
 exact ft r0
 refine xd λv10 hv10=>?_
 refine ar ?_
 refine go (m_cS r0 (Ze hv6) rfl ScS.nil) ?_ (gY (decide_eq_true h5))
 refine au ?_
 refine go (m_cS r0 (Ze hv8) rfl ScS.nil) ?_ (gY h7)
 refine au ?_
 refine go (m_cS r0 (Ze hv10) rfl ScS.nil) ?_ (gY (congrArg not (eq_false_of_ne_true h9)))
 refine au ?_
 exact ft r0
 replace q0:=cS r0 (Ze hv6)
 refine ar ?_
 exact ft r0
 refine ar ?_
 exact ft r0
 refine ar ?_
 exact ft r0
end Go.Proofs.YthpnlnjdmlbnaaaGreatDoor
