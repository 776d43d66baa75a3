/- Parts of the proof. No condition. -/
import Derived.Test.YtkfnkecgcdhncaaGreatQM0
import Derived.Test.YtkfnkecgcdhncaaGreatQM3
namespace Go.Proofs.YtkfnkecgcdhncaaGreat
open Go.RowKit
set_option linter.unusedSimpArgs false
set_option linter.unusedVariables false
set_option maxRecDepth 20000
set_option maxHeartbeats 40000000
structure Qc where
  l:List Int
  pos:Int
def Qc.c(x:Qc):List DV:=[.sl (x.l.map iC),DI x.pos]
def Qc.d(x:Qc):List DV:=[.dp 1 (x.l.map iC),DI x.pos]
structure Rul where
  share:Nat
  limit:Int
  batch:Int
  target:Int
def Rul.c(x:Rul):List DV:=[.lit (.float .f64 x.share),DI x.limit,DI x.batch,DI x.target]
structure Cfg where
  name:ByteArray
  rules:List Rul
  full:Int
def Cfg.c(x:Cfg):List DV:=[.lit (.string x.name),.sl (x.rules.map Rul.c),DI x.full]
def Cfg.d(x:Cfg):List DV:=[.lit (.string x.name),.dp 4 (x.rules.map Rul.c),DI x.full]
structure Inc where
  seq:Int
  belt:Int
  first:Int
  last:Int
  words:Int
def Inc.c(x:Inc):List DV:=[DI x.seq,DI x.belt,DI x.first,DI x.last,DI x.words]
structure Qe where
  frm:Int
  to:Int
  slots:List Int
def Qe.c(x:Qe):List DV:=[DI x.frm,DI x.to,.sl (x.slots.map iC)]
def Qe.d(x:Qe):List DV:=[DI x.frm,DI x.to,.dp 1 (x.slots.map iC)]
structure Rts where
  used:List Bool
  refs:List Int
def Rts.c(x:Rts):List DV:=[.sl (x.used.map bC),.sl (x.refs.map uC)]
def Rts.d(x:Rts):List DV:=[.dp 1 (x.used.map bC),.dp 1 (x.refs.map uC)]
structure Sts where
  allocated:Int
  objects:Int
  collections:Int
  steps:Int
  rounds:Int
  condemned:Int
  copied:Int
  entries:Int
  work:Int
def Sts.c(x:Sts):List DV:=[DI x.allocated,DI x.objects,DI x.collections,DI x.steps,DI x.rounds,DI x.condemned,DI x.copied,DI x.entries,DI x.work]
structure Hp where
  config:Cfg
  space:Sp
  belts:List (List Inc)
  seq:Int
  sets:List Qe
  roots:Rts
  since:Int
  stats:Sts
  dead:Bool
def Hp.c(x:Hp):List DV:=[.lit (.string x.config.name),.sl (x.config.rules.map Rul.c),DI x.config.full,DI x.space.sh,.sl (x.space.ws.map uC),.sl (x.space.fs.map frC),.sl (x.belts.map (lC Inc.c)),DI x.seq,.sl (x.sets.map Qe.c),.sl (x.roots.used.map bC),.sl (x.roots.refs.map uC),DI x.since,DI x.stats.allocated,DI x.stats.objects,DI x.stats.collections,DI x.stats.steps,DI x.stats.rounds,DI x.stats.condemned,DI x.stats.copied,DI x.stats.entries,DI x.stats.work,DB x.dead]
def Hp.d(x:Hp):List DV:=[.lit (.string x.config.name),.dp 4 (x.config.rules.map Rul.c),DI x.config.full,DI x.space.sh,.dp 1 (x.space.ws.map uC),.dp 3 (x.space.fs.map frC),.dp 1 (x.belts.map (lC Inc.c)),DI x.seq,.dp 3 (x.sets.map Qe.c),.dp 1 (x.roots.used.map bC),.dp 1 (x.roots.refs.map uC),DI x.since,DI x.stats.allocated,DI x.stats.objects,DI x.stats.collections,DI x.stats.steps,DI x.stats.rounds,DI x.stats.condemned,DI x.stats.copied,DI x.stats.entries,DI x.stats.work,DB x.dead]
structure Nod where
  refs:List Int
  data:List Int
def Nod.c(x:Nod):List DV:=[.sl (x.refs.map iC),.sl (x.data.map uC)]
def Nod.d(x:Nod):List DV:=[.dp 1 (x.refs.map iC),.dp 1 (x.data.map uC)]
structure Gra where
  nodes:List Nod
  used:List Bool
  roots:List Int
def Gra.c(x:Gra):List DV:=[.sl (x.nodes.map Nod.c),.sl (x.used.map bC),.sl (x.roots.map iC)]
def Gra.d(x:Gra):List DV:=[.dp 2 (x.nodes.map Nod.c),.dp 1 (x.used.map bC),.dp 1 (x.roots.map iC)]
structure AOp where
  code:Int
  a:Int
  b:Int
  c_:Int
def AOp.c(x:AOp):List DV:=[DI x.code,DI x.a,DI x.b,DI x.c_]
structure Ans where
  err:Int
  value:Int
def Ans.c(x:Ans):List DV:=[DI x.err,DU x.value]
structure Cur where
  belt:Int
  begun:Bool
  last:Int
def Cur.c(x:Cur):List DV:=[DI x.belt,DB x.begun,DI x.last]
structure Rpt where
  condemned:Int
  survived:Int
  entries:Int
  work:Int
def Rpt.c(x:Rpt):List DV:=[DI x.condemned,DI x.survived,DI x.entries,DI x.work]
structure Mov where
  frm:Int
  to:Int
def Mov.c(x:Mov):List DV:=[DI x.frm,DI x.to]
structure Qr where
  s:Sp
  l:List Inc
  to:Inc
  moves:List Mov
  e:Int
def Qr.c(x:Qr):List DV:=[DI x.s.sh,.sl (x.s.ws.map uC),.sl (x.s.fs.map frC),.sl (x.l.map Inc.c),DI x.to.seq,DI x.to.belt,DI x.to.first,DI x.to.last,DI x.to.words,.sl (x.moves.map Mov.c),DI x.e]
def Qr.d(x:Qr):List DV:=[DI x.s.sh,.dp 1 (x.s.ws.map uC),.dp 3 (x.s.fs.map frC),.dp 5 (x.l.map Inc.c),DI x.to.seq,DI x.to.belt,DI x.to.first,DI x.to.last,DI x.to.words,.dp 2 (x.moves.map Mov.c),DI x.e]
structure QO where
  s:Sp
  pos:Int
  refs:Int
  data:Int
def QO.c(x:QO):List DV:=[DI x.s.sh,.sl (x.s.ws.map uC),.sl (x.s.fs.map frC),DI x.pos,DI x.refs,DI x.data]
def QO.d(x:QO):List DV:=[DI x.s.sh,.dp 1 (x.s.ws.map uC),.dp 3 (x.s.fs.map frC),DI x.pos,DI x.refs,DI x.data]
structure Qa6 where
  slot:Int
  frm:Int
  to:Int
def Qa6.c(x:Qa6):List DV:=[DI x.slot,DI x.frm,DI x.to]
noncomputable def Qc5(p0:List Int):Option Qc :=
 some (Qc.mk p0 0)
theorem F_make_New_ok{p0 r}:Sm (Qc5 p0) r->DCall Tryz.prog 6 [.sl (p0.map iC)] [] (.ptr 0 0 0) [(0,bO 2 [.sl (r.l.map iC),DI r.pos])]:=by
 unfold Qc5
 &mk0 Tryz.func6 ?_
 &ar ?_
 &ar ?_
 ~ft r1
noncomputable def QaQ(p0:Int)(p1:Int):Option Int :=
 if ¬ p1=0 then
 if (Int.tmod p0 p1)<0 then
 (some (w64 ((Int.tmod p0 p1)+p1)))
 else
 some (Int.tmod p0 p1)
 else none
theorem Qed{p0 p1 r}:Sm (QaQ p0 p1) r->DCall Tryz.prog 7 [DI p0,DI p1] [] (DI r) []:=by
 unfold QaQ
 &mk0 Tryz.func7 ?_
 &ar ?_
 &xc λh1=>?_
 &ar ?_
 &sq λK k=>?_
 &ar ?_
 &xs (λh3=>?_) λh3=>?_
 &da ?_
 &ar ?_
 ~ft r0
 &db ?_
 ~ft r0
noncomputable def QaN :Option (List ByteArray) :=
 some ([(ByteArray.mk #[115,101,109,105,115,112,97,99,101]),(ByteArray.mk #[97,112,112,101,108]),(ByteArray.mk #[102,105,120,101,100]),(ByteArray.mk #[111,108,100,101,114,45,102,105,114,115,116]),(ByteArray.mk #[120,120]),(ByteArray.mk #[120,120,49,48,48])])
theorem Qe7{r}:Sm (QaN) r->DCall Tryz.prog 42 [] [] (.own 0 0 r.length) [(0,aO 1 (r.map sC))]:=by
 unfold QaN
 &mk0 Tryz.func42 ?_
 &ar ?_
 &ar ?_
 &goA (Ql (c:=sC) ([(ByteArray.mk #[115,101,109,105,115,112,97,99,101]),(ByteArray.mk #[97,112,112,101,108]),(ByteArray.mk #[102,105,120,101,100]),(ByteArray.mk #[111,108,100,101,114,45,102,105,114,115,116]),(ByteArray.mk #[120,120]),(ByteArray.mk #[120,120,49,48,48])]:List ByteArray) i107.ok i9.ok) ?_
 &au ?_
 ~ft r1
noncomputable def Zr(p0:Int):Option (Nat×Int) :=
 if p0<0 then
 (some ((0,1)))
 else
 if 100<p0 then
 (some ((0,1)))
 else
 (FloatKind.f64.format.div (FloatKind.f64.nearest p0) 4636737291354636288).bind λv4 =>
 some ((v4,0))
theorem Qbl{p0 r}:Sm (Zr p0) r->DCall Tryz.prog 81 [DI p0] [] (.tup [.lit (.float .f64 r.1),DI r.2]) []:=by
 unfold Zr
 &mk0 Tryz.func81 ?_
 &ar ?_
 &sq λK k=>?_
 &xs (λh2=>?_) λh2=>?_
 &ar ?_
 &da ?_
 ~ftt r0
 &ar ?_
 &xs (λh3=>?_) λh3=>?_
 &da ?_
 ~ftt r0
 &cb ?_
 &xd λv4 hv4=>?_
 &ar ?_
 &goA (m_fcv i3.ok i109.ok) ?_
 &goA (m_fqu hv4.h) ?_
 &au ?_
 ~ftt r0
noncomputable def Zz(p0:ByteArray):Option Bool :=
 bndR (Qh (λ(s4:Int) =>
 if s4<(p0.size:Int) then
 ((sAt p0 s4).bind λv9 =>
 if 97<=v9 then
 (if v9<=122 then
 (some (.go (w64 (s4+1))))
 else
 if s4=0 then
 (some (.out (.inr (false))))
 else
 if v9=45 then
 (some (.go (w64 (s4+1))))
 else
 if v9<48 then
 (some (.out (.inr (false))))
 else
 if 57<v9 then
 (some (.out (.inr (false))))
 else
 some (.go (w64 (s4+1))))
 else
 if s4=0 then
 (some (.out (.inr (false))))
 else
 if v9=45 then
 (some (.go (w64 (s4+1))))
 else
 if v9<48 then
 (some (.out (.inr (false))))
 else
 if 57<v9 then
 (some (.out (.inr (false))))
 else
 some (.go (w64 (s4+1))))
 else
 some (.out (.inl (())))) 0) λ(b1:Unit) =>
 if 1<=(p0.size:Int) then
 (some (decide ((p0.size:Int)<=16)))
 else
 some (false)
theorem Qe8{p0 r}:Sm (Zz p0) r->DCall Tryz.prog 103 [.lit (.string p0)] [] (DB r) []:=by
 unfold Zz
 &mk0 Tryz.func103 ?_
 &ar ?_
 &cU [0] [] [] [] [] 0 (λz2 hr2=>?_) λb1=>?_
 &ar ?_
 &lP [0] [(3,λs4=>DI s4)] [] [] [] 0 λs4 y5 hq5=>?_
 &sq λK k=>?_
 &ar ?_
 &goA (m_lenS i9.ok) ?_
 &au ?_
 &xs (λh7=>?_) λh7=>?_
 &ca ?_
 &sq λK k=>?_
 &au ?_
 &xd λv9 hv9=>?_
 &ar ?_
 &goA (m_idS hv9.h i9.ok) ?_
 &au ?_
 &xs (λh10=>?_) λh10=>?_
 &ar ?_
 &xs (λh11=>?_) λh11=>?_
 &ar ?_
 &db ?_
 ~wJ []
 &xs (λh12=>?_) λh12=>?_
 &ar ?_
 &da ?_
 &xo hq5 ?_
 &xr hr2 ?_
 ~ft r0
 &xs (λh13=>?_) λh13=>?_
 &ar ?_
 &db ?_
 ~wJ []
 &xs (λh14=>?_) λh14=>?_
 &ar ?_
 &da ?_
 &xo hq5 ?_
 &xr hr2 ?_
 ~ft r0
 &ar ?_
 &xs (λh15=>?_) λh15=>?_
 &da ?_
 &xo hq5 ?_
 &xr hr2 ?_
 ~ft r0
 &db ?_
 ~wJ []
 &ar ?_
 &xs (λh16=>?_) λh16=>?_
 &ar ?_
 &da ?_
 &xo hq5 ?_
 &xr hr2 ?_
 ~ft r0
 &xs (λh17=>?_) λh17=>?_
 &ar ?_
 &db ?_
 ~wJ []
 &xs (λh18=>?_) λh18=>?_
 &ar ?_
 &da ?_
 &xo hq5 ?_
 &xr hr2 ?_
 ~ft r0
 &ar ?_
 &xs (λh19=>?_) λh19=>?_
 &da ?_
 &xo hq5 ?_
 &xr hr2 ?_
 ~ft r0
 &db ?_
 ~wJ []
 &cb ?_
 &xo hq5 ?_
 ~wJ []
 &xs (λh20=>?_) λh20=>?_
 &ar ?_
 &goA (m_lenS i9.ok) ?_
 &au ?_
 &go (m_lenS i9.ok) ?_ (gY (decide_eq_true h20))
 &au ?_
 ~ft r0
 &ar ?_
 &goA (m_lenS i9.ok) ?_
 &au ?_
 ~ft r0
noncomputable def X2(p0:Nat):Option Bool :=
 if ((p0:Nat):Int)=0 then
 (some (true))
 else
 if (QeY .gtr p0 0)=true then
 (some ((QeY .leq p0 4607182418800017408)))
 else
 some (false)
theorem Qcg{p0 r}:Sm (X2 p0) r->DCall Tryz.prog 104 [.lit (.float .f64 p0)] [] (DB r) []:=by
 unfold X2
 &mk0 Tryz.func104 ?_
 &ar ?_
 &xs (λh1=>?_) λh1=>?_
 &ar ?_
 &goA (m_ext1 (u:=.float .f64 p0) (v:=.int .u64 ((p0:Nat):Int)) (λ_=>by rw [run_callFunc_extern Tryz.func135 Ok Ok Ok (e:=Extern.MathFloatBits.float64bits) Ok];rfl) rfl) ?_
 &au ?_
 ~ft r0
 &xs (λh2=>?_) λh2=>?_
 &ar ?_
 &goA (m_ext1 (u:=.float .f64 p0) (v:=.int .u64 ((p0:Nat):Int)) (λ_=>by rw [run_callFunc_extern Tryz.func135 Ok Ok Ok (e:=Extern.MathFloatBits.float64bits) Ok];rfl) rfl) ?_
 &au ?_
 &go (QeW (.inr (.inr (.inr (.inr (.inl rfl)))))) ?_ (gY (decide_eq_false h1))
 &au ?_
 &go (QeW (.inr (.inr (.inr (.inl rfl))))) ?_ (gY h2)
 &au ?_
 ~ft r0
 &ar ?_
 &goA (m_ext1 (u:=.float .f64 p0) (v:=.int .u64 ((p0:Nat):Int)) (λ_=>by rw [run_callFunc_extern Tryz.func135 Ok Ok Ok (e:=Extern.MathFloatBits.float64bits) Ok];rfl) rfl) ?_
 &au ?_
 &go (QeW (.inr (.inr (.inr (.inr (.inl rfl)))))) ?_ (gY (decide_eq_false h1))
 &au ?_
 ~ft r0
noncomputable def ZC(p0:Int):Option Bool :=
 if 3<=p0 then
 (some (decide (p0<=8)))
 else
 some (false)
theorem Jj{p0 r}:Sm (ZC p0) r->DCall Tryz.prog 52 [DI p0] [] (DB r) []:=by
 unfold ZC
 &mk0 Tryz.func52 ?_
 &ar ?_
 &xs (λh1=>?_) λh1=>?_
 &ar ?_
 ~ft r0
 &ar ?_
 ~ft r0
noncomputable def QaY :Option Rts :=
 if 0<=(32:Int)/\(32:Int)*1<=281474976710656/\(32:Int)<=9223372036854775807 then
 if 0<=(32:Int)/\(32:Int)*8<=281474976710656/\(32:Int)<=9223372036854775807 then
 some (Rts.mk (List.replicate (Int.toNat 32) false) (List.replicate (Int.toNat 32) (0:Int)))
 else none
 else none
theorem F_ref20_New_ok{r}:Sm (QaY) r->DCall Tryz.prog 62 [] [] (.agg [.own 0 0 r.used.length,.own 1 0 r.refs.length]) [(0,aO 1 (r.used.map bC)),(1,aO 1 (r.refs.map uC))]:=by
 unfold QaY
 &mk0 Tryz.func62 ?_
 &ar ?_
 &xc λh1=>?_
 &xc λh2=>?_
 &ar ?_
 &goA (m_mkE (c:=bC) false h1 i32.ok i4.ok) ?_
 &goA (m_mkE (c:=uC) 0 h2 i26.ok i61.ok) ?_
 &au ?_
 ~fw [(0,1),(1,2)]
noncomputable def QaW :Option Gra :=
 if 0<=(32:Int)/\(32:Int)*1<=281474976710656/\(32:Int)<=9223372036854775807 then
 if 0<=(32:Int)/\(32:Int)*8<=281474976710656/\(32:Int)<=9223372036854775807 then
 (Qh (λ(s6:List Int×Int) =>
 if s6.2<((List.replicate (Int.toNat 32) (0:Int)).length:Int) then
 ((at_ s6.1 s6.2).bind λv11 =>
 some (.go ((s6.1.set (Int.toNat s6.2) (-1),w64 (s6.2+1)))))
 else
 some (.out (s6.1))) (List.replicate (Int.toNat 32) (0:Int),0)).bind λ(b3:List Int) =>
 some (Gra.mk ([]:List Nod) (List.replicate (Int.toNat 32) false) b3)
 else none
 else none
theorem F_ref29_New_ok{r}:Sm (QaW) r->DCall Tryz.prog 35 [] [] (.agg [.own 0 0 r.nodes.length,.own 1 0 r.used.length,.own 2 0 r.roots.length]) [(0,aO 2 (r.nodes.map Nod.c)),(1,aO 1 (r.used.map bC)),(2,aO 1 (r.roots.map iC))]:=by
 unfold QaW
 &mk0 Tryz.func35 ?_
 &ar ?_
 &xc λh1=>?_
 &xc λh2=>?_
 &ar ?_
 &goA (m_mkE (c:=bC) false h1 i32.ok i4.ok) ?_
 &goA (m_mkE (c:=iC) 0 h2 i22.ok i3.ok) ?_
 &au ?_
 &cT [] [(0,λb3=>.ptr 0 0 0),(1,λb3=>.ptr 3 0 0)] [0,1] [] [(2,λb3=>aO 1 (b3.map iC)),(3,λb3=>bO 3 [DN,.own 1 0 (List.replicate (Int.toNat 32) false).length,.own 2 0 b3.length])] 4 (λz4=>?_) λb3=>?_
 &ar ?_
 &lP [8] [(0,λs6=>.ptr 0 0 0),(1,λs6=>.ptr 3 0 0),(9,λs6=>DI s6.2)] [0,1] [] [(2,λs6=>aO 1 (s6.1.map iC)),(3,λs6=>bO 3 [DN,.own 1 0 (List.replicate (Int.toNat 32) false).length,.own 2 0 s6.1.length])] 4 λs6 y7 hq7=>?_
 &ar ?_
 &sq λK k=>?_
 &xs (λh9=>?_) λh9=>?_
 &ca ?_
 &sq λK k=>?_
 &ar ?_
 &xa λv11 hv11=>?_
 &ar ?_
 &goA (Xr (c:=iC) hv11.h (-1) i3.ok) ?_
 &au ?_
 &ar ?_
 ~wJ []
 &cb ?_
 &xo hq7 ?_
 ~wJ []
 &ar ?_
 &xx (Qj 0 0 2 Od rfl rfl) ?_
 ~fw [(0,4),(1,1),(2,2)]
noncomputable def QaE(p0:Qc):Option (Bool×Qc) :=
 some ((decide (p0.pos<(p0.l.length:Int)),p0))
theorem QdD{p0 r}:Sm (QaE p0) r->DCall Tryz.prog 37 [.ptr 0 0 0] [(0,bO 2 [.sl (p0.l.map iC),DI p0.pos])] (DB r.1) [(0,bO 2 [.sl (r.2.l.map iC),DI r.2.pos])]:=by
 unfold QaE
 &mk0 Tryz.func37 ?_
 &ar ?_
 &ar ?_
 ~ft r1
noncomputable def Qt(p0:Hp)(p1:Int):Option (Hp×Ans) :=
 some ((p0,Ans.mk p1 0))
theorem Qq{p0 p1 r}:Sm (Qt p0 p1) r->DCall Tryz.prog 64 [.agg [.lit (.string p0.config.name),.sl (p0.config.rules.map Rul.c),DI p0.config.full,DI p0.space.sh,.sl (p0.space.ws.map uC),.sl (p0.space.fs.map frC),.sl (p0.belts.map (lC Inc.c)),DI p0.seq,.sl (p0.sets.map Qe.c),.sl (p0.roots.used.map bC),.sl (p0.roots.refs.map uC),DI p0.since,DI p0.stats.allocated,DI p0.stats.objects,DI p0.stats.collections,DI p0.stats.steps,DI p0.stats.rounds,DI p0.stats.condemned,DI p0.stats.copied,DI p0.stats.entries,DI p0.stats.work,DB p0.dead],DI p1] [] (.tup [.agg [.lit (.string r.1.config.name),.sl (r.1.config.rules.map Rul.c),DI r.1.config.full,DI r.1.space.sh,.sl (r.1.space.ws.map uC),.sl (r.1.space.fs.map frC),.sl (r.1.belts.map (lC Inc.c)),DI r.1.seq,.sl (r.1.sets.map Qe.c),.sl (r.1.roots.used.map bC),.sl (r.1.roots.refs.map uC),DI r.1.since,DI r.1.stats.allocated,DI r.1.stats.objects,DI r.1.stats.collections,DI r.1.stats.steps,DI r.1.stats.rounds,DI r.1.stats.condemned,DI r.1.stats.copied,DI r.1.stats.entries,DI r.1.stats.work,DB r.1.dead],.agg [DI r.2.err,DU r.2.value]]) []:=by
 unfold Qt
 &mk0 Tryz.func64 ?_
 &ar ?_
 &ar ?_
 ~fww r0
noncomputable def XP(p0:Int)(p1:Int):Option (Int×Int) :=
 if p0<0 then
 (some ((0,13)))
 else
 if 15<p0 then
 (some ((0,13)))
 else
 if p1<0 then
 (some ((0,13)))
 else
 if 32<p1 then
 (some ((0,13)))
 else
 some ((wu (w64 ((w64 ((w64 ((w64 (1+p0))+p1))*256))+(w64 (p0*2)))),0))
theorem Qa2{p0 p1 r}:Sm (XP p0 p1) r->DCall Tryz.prog 105 [DI p0,DI p1] [] (.tup [DU r.1,DI r.2]) []:=by
 unfold XP
 &mk0 Tryz.func105 ?_
 &ar ?_
 &sq λK k=>?_
 &xs (λh2=>?_) λh2=>?_
 &ar ?_
 &da ?_
 ~ftt r0
 &xs (λh3=>?_) λh3=>?_
 &ar ?_
 &da ?_
 ~ftt r0
 &xs (λh4=>?_) λh4=>?_
 &ar ?_
 &da ?_
 ~ftt r0
 &ar ?_
 &xs (λh5=>?_) λh5=>?_
 &da ?_
 ~ftt r0
 &db ?_
 ~ftt r0
noncomputable def ZX(p0:Rts):Option (List Int) :=
 (Qh (λ(s5:List Int×Int) =>
 if s5.2<(p0.used.length:Int) then
 ((at_ p0.used s5.2).bind λv10 =>
 if v10=true then
 (if ((s5.1.length:Int)+[w64 (s5.2+1)].length)*8<=140737488355328/\(s5.1.length:Int)+[w64 (s5.2+1)].length<=9223372036854775807 then
 some (.go ((s5.1++[w64 (s5.2+1)],w64 (s5.2+1))))
 else none)
 else
 some (.go ((s5.1,w64 (s5.2+1)))))
 else
 some (.out (s5.1))) (([]:List Int),0)).bind λ(b1:List Int) =>
 some (b1)
theorem JP{p0 r}:Sm (ZX p0) r->DCall Tryz.prog 136 [.agg [.sl (p0.used.map bC),.sl (p0.refs.map uC)]] [] (.own 0 0 r.length) [(0,aO 1 (r.map iC))]:=by
 unfold ZX
 &mk0 Tryz.func136 ?_
 &ar ?_
 &ar ?_
 &cT [] [(3,λb1=>.own 1 0 b1.length)] [] [] [(1,λb1=>aO 1 (b1.map iC))] 2 (λz2=>?_) λb1=>?_
 &ar ?_
 &xx (Qz 3 1 Od rfl) ?_
 &lP [7,8] [(3,λs5=>.own 1 0 s5.1.length),(9,λs5=>DI s5.2)] [] [] [(1,λs5=>aO 1 (s5.1.map iC))] 2 λs5 y6 hq6=>?_
 &ar ?_
 &sq λK k=>?_
 &xs (λh8=>?_) λh8=>?_
 &ca ?_
 &sq λK k=>?_
 &au ?_
 &xa λv10 hv10=>?_
 &ar ?_
 &ar ?_
 &xs (λh11=>?_) λh11=>?_
 &ca ?_
 &xc λh12=>?_
 &ar ?_
 &goA (Ql (c:=iC) ([w64 (s5.2+1)]:List Int) i22.ok i3.ok) ?_
 &goA (QW (c:=iC) s5.1 [w64 (s5.2+1)] h12 i22.ok i3.ok rfl rfl (.own rfl rfl Os (Qg (c:=iC) (λ_=>rfl) _)) rfl) ?_
 &au ?_
 &ar ?_
 ~wJ [(1,3)]
 &db ?_
 ~wJ []
 &cb ?_
 &xo hq6 ?_
 ~wJ []
 &ar ?_
 ~ft [(0,1)]
noncomputable def JU(p0:List Int):Option (List Int) :=
 if (p0.length:Int)*8<=140737488355328/\(p0.length:Int)<=9223372036854775807 then
 some (p0)
 else none
theorem Qfa{p0 r}:Sm (JU p0) r->DCall Tryz.prog 146 [.sl (p0.map uC)] [] (.own 0 0 r.length) [(0,aO 1 (r.map uC))]:=by
 unfold JU
 &mk0 Tryz.func146 ?_
 &ar ?_
 &xc λh1=>?_
 &ar ?_
 &goA (QbU (c:=uC) p0 h1 i26.ok i61.ok rfl (.sl rfl (Qg (c:=uC) (λ_=>rfl) _))) ?_
 &au ?_
 ~ft r1
noncomputable def Q5(p0:List (List Inc)):Option (List (List Inc)) :=
 (Qh (λ(s5:List (List Inc)×Int) =>
 if s5.2<(p0.length:Int) then
 ((at_ p0 s5.2).bind λv10 =>
 if (v10.length:Int)*40<=140737488355328/\(v10.length:Int)<=9223372036854775807 then
 if ((s5.1.length:Int)+1)*24<=140737488355328/\(s5.1.length:Int)+1<=9223372036854775807 then
 some (.go ((s5.1++[v10],w64 (s5.2+1))))
 else none
 else none)
 else
 some (.out (s5.1))) (([]:List (List Inc)),0)).bind λ(b1:List (List Inc)) =>
 some (b1)
theorem ZU{p0 r}:Sm (Q5 p0) r->DCall Tryz.prog 112 [.sl (p0.map (lC Inc.c))] [] (.own 0 0 r.length) [(0,⟨1,false,false,r.map (lD 5 Inc.c)⟩)]:=by
 unfold Q5
 &mk0 Tryz.func112 ?_
 &ar ?_
 &ar ?_
 &cT [] [(3,λb1=>.own 0 0 b1.length)] [] [] [(0,λb1=>⟨1,false,false,b1.map (lD 5 Inc.c)⟩)] 1 (λz2=>?_) λb1=>?_
 &ar ?_
 &xx (Qz 3 1 Od rfl) ?_
 &xx (Qp (Qdb (cd:=(lD 5 Inc.c)) (s:=0) rfl)) ?_
 &lP [6,7] [(3,λs5=>.own 0 0 s5.1.length),(8,λs5=>DI s5.2)] [] [] [(0,λs5=>⟨1,false,false,s5.1.map (lD 5 Inc.c)⟩)] 1 λs5 y6 hq6=>?_
 &ar ?_
 &sq λK k=>?_
 &xs (λh8=>?_) λh8=>?_
 &ca ?_
 &sq λK k=>?_
 &au ?_
 &xa λv10 hv10=>?_
 &ar ?_
 &xc λh11=>?_
 &xc λh12=>?_
 &ar ?_
 &goA (QbU (c:=Inc.c) v10 h11 i52.ok i56.ok rfl (.sl rfl (Qg (c:=Inc.c) (λ_=>rfl) _))) ?_
 &goA (m_litD [[.own 1 0 v10.length]] i30.ok i52.ok) ?_
 &goA (m_apD (cd:=(lD 5 Inc.c)) s5.1 v10 [.own 1 0 v10.length] h12 i30.ok i52.ok rfl rfl (by first | rfl | omega | (simp;done) | (simp;omega)) rfl rfl rfl) ?_
 &au ?_
 &ar ?_
 intro H;have e:=se H;subst e;~⟨_,rfl,ZM.trans (attL (s:=3) (t:=1) (j:=0) (c:=Inc.c) [.dp 5 (v10.map Inc.c)] rfl rfl rfl rfl rfl rfl) (ZM.trans (tellL (s:=3) v10 rfl rfl) (wkJ [(0,3)]))⟩
 &cb ?_
 &xo hq6 ?_
 ~wJ []
 &ar ?_
 ~ft r1
noncomputable def ZZ(p0:List Qe):Option (List Qe) :=
 (Qh (λ(s5:List Qe×Int) =>
 if s5.2<(p0.length:Int) then
 ((at_ p0 s5.2).bind λv10 =>
 if (v10.slots.length:Int)*8<=140737488355328/\(v10.slots.length:Int)<=9223372036854775807 then
 if ((s5.1.length:Int)+[v10].length)*40<=140737488355328/\(s5.1.length:Int)+[v10].length<=9223372036854775807 then
 some (.go ((s5.1++[v10],w64 (s5.2+1))))
 else none
 else none)
 else
 some (.out (s5.1))) (([]:List Qe),0)).bind λ(b1:List Qe) =>
 some (b1)
theorem JR{p0 r}:Sm (ZZ p0) r->DCall Tryz.prog 113 [.sl (p0.map Qe.c)] [] (.own 0 0 r.length) [(0,aO 3 (r.map Qe.c))]:=by
 unfold ZZ
 &mk0 Tryz.func113 ?_
 &ar ?_
 &ar ?_
 &cT [] [(3,λb1=>.own 0 0 b1.length)] [] [] [(0,λb1=>aO 3 (b1.map Qe.c))] 1 (λz2=>?_) λb1=>?_
 &ar ?_
 &xx (Qz 3 3 Od rfl) ?_
 &lP [6,7] [(3,λs5=>.own 0 0 s5.1.length),(8,λs5=>DI s5.2)] [] [] [(0,λs5=>aO 3 (s5.1.map Qe.c))] 1 λs5 y6 hq6=>?_
 &ar ?_
 &sq λK k=>?_
 &xs (λh8=>?_) λh8=>?_
 &ca ?_
 &sq λK k=>?_
 &au ?_
 &xa λv10 hv10=>?_
 &ar ?_
 &xc λh11=>?_
 &xc λh12=>?_
 &ar ?_
 &goA (QbU (c:=iC) v10.slots h11 i22.ok i3.ok rfl (.sl rfl (Qg (c:=iC) (λ_=>rfl) _))) ?_
 &au ?_
 &goA (m_litP (c:=Qe.c) ([v10]:List Qe) i31.ok i81.ok rfl rfl rfl rfl Od Od Od rfl (pu_lit (pu_lit (pu_own (c:=iC) (ys:=v10.slots) rfl pu_nil))) rfl rfl) ?_
 &goA (QW (c:=Qe.c) s5.1 [v10] h12 i31.ok i81.ok rfl rfl (.own rfl rfl Os (Qg (c:=Qe.c) (λ_=>rfl) _)) rfl) ?_
 &au ?_
 &ar ?_
 ~wJ [(0,4)]
 &cb ?_
 &xo hq6 ?_
 ~wJ []
 &ar ?_
 ~ft r1
noncomputable def ZY(p0:Rts):Option Rts :=
 if (p0.used.length:Int)*1<=140737488355328/\(p0.used.length:Int)<=9223372036854775807 then
 if (p0.refs.length:Int)*8<=140737488355328/\(p0.refs.length:Int)<=9223372036854775807 then
 some (p0)
 else none
 else none
theorem JQ{p0 r}:Sm (ZY p0) r->DCall Tryz.prog 114 [.agg [.sl (p0.used.map bC),.sl (p0.refs.map uC)]] [] (.agg [.own 0 0 r.used.length,.own 1 0 r.refs.length]) [(0,aO 1 (r.used.map bC)),(1,aO 1 (r.refs.map uC))]:=by
 unfold ZY
 &mk0 Tryz.func114 ?_
 &ar ?_
 &xc λh1=>?_
 &xc λh2=>?_
 &ar ?_
 &goA (QbU (c:=bC) p0.used h1 i32.ok i4.ok rfl (.sl rfl (Qg (c:=bC) (λ_=>rfl) _))) ?_
 &au ?_
 &goA (QbU (c:=uC) p0.refs h2 i26.ok i61.ok rfl (.sl rfl (Qg (c:=uC) (λ_=>rfl) _))) ?_
 &au ?_
 ~fw [(0,2),(1,3)]
noncomputable def QS(p0:List (List Inc))(p1:Int):Option (Inc×Bool) :=
 if p1<0 then
 (some ((Inc.mk 0 0 0 0 0,false)))
 else
 if (p0.length:Int)<=p1 then
 (some ((Inc.mk 0 0 0 0 0,false)))
 else
 (at_ p0 p1).bind λv4 =>
 if (v4.length:Int)=0 then
 (some ((Inc.mk 0 0 0 0 0,false)))
 else
 (at_ v4 (w64 ((v4.length:Int)-1))).bind λv6 =>
 some ((v6,true))
theorem Z4{p0 p1 r}:Sm (QS p0 p1) r->DCall Tryz.prog 158 [.sl (p0.map (lC Inc.c)),DI p1] [] (.tup [.agg [DI r.1.seq,DI r.1.belt,DI r.1.first,DI r.1.last,DI r.1.words],DB r.2]) []:=by
 unfold QS
 &mk0 Tryz.func158 ?_
 &ar ?_
 &sq λK k=>?_
 &xs (λh2=>?_) λh2=>?_
 &ar ?_
 &da ?_
 ~fwt r0
 &xs (λh3=>?_) λh3=>?_
 &ar ?_
 &da ?_
 ~fwt r0
 &xa λv4 hv4=>?_
 &ar ?_
 &xs (λh5=>?_) λh5=>?_
 &da ?_
 ~fwt r0
 &cb ?_
 &xa λv6 hv6=>?_
 &ar ?_
 ~fwt r0
noncomputable def JB(p0:Int)(p1:Int):Option Int :=
 if p0<0 then
 (some (0))
 else
 if 1099511627776<p0 then
 (some (0))
 else
 if p1<0 then
 (some (0))
 else
 if 20<p1 then
 (some (0))
 else
 if 0<=wu p1 then
 some (QbO .i64 (w64 ((w64 (p0+(Qa9 .i64 1 (wu p1))))-1)) (wu p1))
 else none
theorem QcO{p0 p1 r}:Sm (JB p0 p1) r->DCall Tryz.prog 175 [DI p0,DI p1] [] (DI r) []:=by
 unfold JB
 &mk0 Tryz.func175 ?_
 &ar ?_
 &sq λK k=>?_
 &xs (λh2=>?_) λh2=>?_
 &ar ?_
 &da ?_
 ~ft r0
 &xs (λh3=>?_) λh3=>?_
 &ar ?_
 &da ?_
 ~ft r0
 &xs (λh4=>?_) λh4=>?_
 &ar ?_
 &da ?_
 ~ft r0
 &ar ?_
 &xs (λh5=>?_) λh5=>?_
 &da ?_
 ~ft r0
 &cb ?_
 &xc λh6=>?_
 &ar ?_
 ~ft r0
noncomputable def ZB(p0:Sp):Option (List Int) :=
 (Qh (λ(s5:List Int×Int) =>
 if s5.2<(p0.fs.length:Int) then
 ((at_ p0.fs s5.2).bind λv10 =>
 if v10.ow=(-1) then
 (if ((s5.1.length:Int)+[s5.2].length)*8<=140737488355328/\(s5.1.length:Int)+[s5.2].length<=9223372036854775807 then
 some (.go ((s5.1++[s5.2],w64 (s5.2+1))))
 else none)
 else
 some (.go ((s5.1,w64 (s5.2+1)))))
 else
 some (.out (s5.1))) (([]:List Int),0)).bind λ(b1:List Int) =>
 some (b1)
theorem XR{p0 r}:Sm (ZB p0) r->DCall Tryz.prog 163 [.agg [DI p0.sh,.sl (p0.ws.map uC),.sl (p0.fs.map frC)]] [] (.own 0 0 r.length) [(0,aO 1 (r.map iC))]:=by
 unfold ZB
 &mk0 Tryz.func163 ?_
 &ar ?_
 &ar ?_
 &cT [] [(3,λb1=>.own 1 0 b1.length)] [] [] [(1,λb1=>aO 1 (b1.map iC))] 2 (λz2=>?_) λb1=>?_
 &ar ?_
 &xx (Qz 3 1 Od rfl) ?_
 &lP [7,8] [(3,λs5=>.own 1 0 s5.1.length),(9,λs5=>DI s5.2)] [] [] [(1,λs5=>aO 1 (s5.1.map iC))] 2 λs5 y6 hq6=>?_
 &ar ?_
 &sq λK k=>?_
 &xs (λh8=>?_) λh8=>?_
 &ca ?_
 &sq λK k=>?_
 &au ?_
 &xa λv10 hv10=>?_
 &ar ?_
 &ar ?_
 &xs (λh11=>?_) λh11=>?_
 &ca ?_
 &xc λh12=>?_
 &ar ?_
 &goA (Ql (c:=iC) ([s5.2]:List Int) i22.ok i3.ok) ?_
 &goA (QW (c:=iC) s5.1 [s5.2] h12 i22.ok i3.ok rfl rfl (.own rfl rfl Os (Qg (c:=iC) (λ_=>rfl) _)) rfl) ?_
 &au ?_
 &ar ?_
 ~wJ [(1,4)]
 &db ?_
 ~wJ []
 &cb ?_
 &xo hq6 ?_
 ~wJ []
 &ar ?_
 ~ft [(0,1)]
noncomputable def Jx(p0:List (List Inc))(p1:Int):Option (Inc×Bool) :=
 bndR (Qh (λ(s4:Int) =>
 if s4<(p0.length:Int) then
 (bndR ((at_ p0 s4).bind λv10 =>
 Qh (λ(s12:Int) =>
 if s12<(v10.length:Int) then
 ((at_ v10 s12).bind λv17 =>
 if v17.seq=p1 then
 (some (.out (.inr (.out (.inr ((v17,true)))))))
 else
 some (.go (w64 (s12+1))))
 else
 some (.out (.inl (())))) 0) λ(b8:Unit) =>
 some (.go (w64 (s4+1))))
 else
 some (.out (.inl (())))) 0) λ(b1:Unit) =>
 some ((Inc.mk 0 0 0 0 0,false))
theorem QcL{p0 p1 r}:Sm (Jx p0 p1) r->DCall Tryz.prog 168 [.sl (p0.map (lC Inc.c)),DI p1] [] (.tup [.agg [DI r.1.seq,DI r.1.belt,DI r.1.first,DI r.1.last,DI r.1.words],DB r.2]) []:=by
 unfold Jx
 &mk0 Tryz.func168 ?_
 &ar ?_
 &cU [] [(4,λb1=>.ptr 0 0 0)] [0] [] [] 1 (λz2 hr2=>?_) λb1=>?_
 &ar ?_
 &lP [1,10,11] [(4,λs4=>.ptr 0 0 0),(12,λs4=>DI s4)] [0] [] [] 1 λs4 y5 hq5=>?_
 &ar ?_
 &sq λK k=>?_
 &xs (λh7=>?_) λh7=>?_
 &ca ?_
 &cU [1,4,10,11,12] [] [0] [] [] 1 (λz9 hr9=>?_) λb8=>?_
 &au ?_
 &xa λv10 hv10=>?_
 &ar ?_
 &ar ?_
 &lP [1,4,10,11,12,16,17] [(18,λs12=>DI s12)] [0] [] [] 1 λs12 y13 hq13=>?_
 &ar ?_
 &sq λK k=>?_
 &xs (λh15=>?_) λh15=>?_
 &ca ?_
 &sq λK k=>?_
 &au ?_
 &xa λv17 hv17=>?_
 &ar ?_
 &ar ?_
 &xs (λh18=>?_) λh18=>?_
 &da ?_
 &xo hq13 ?_
 &xr hr9 ?_
 &xo hq5 ?_
 &xr hr2 ?_
 ~fwt r0
 &db ?_
 ~wJ []
 &cb ?_
 &xo hq13 ?_
 ~wJ []
 &ar ?_
 ~wJ []
 &cb ?_
 &xo hq5 ?_
 ~wJ []
 &ar ?_
 ~fwt r0
noncomputable def Qad(p0:List (List Inc)):Option (List Inc) :=
 (Qh (λ(s5:List Inc×Int) =>
 if s5.2<(p0.length:Int) then
 ((at_ p0 s5.2).bind λv10 =>
 if ((s5.1.length:Int)+v10.length)*40<=140737488355328/\(s5.1.length:Int)+v10.length<=9223372036854775807 then
 some (.go ((s5.1++v10,w64 (s5.2+1))))
 else none)
 else
 some (.out (s5.1))) (([]:List Inc),0)).bind λ(b1:List Inc) =>
 some (b1)
theorem F_ref15_All_ok{p0 r}:Sm (Qad p0) r->DCall Tryz.prog 12 [.sl (p0.map (lC Inc.c))] [] (.own 0 0 r.length) [(0,aO 5 (r.map Inc.c))]:=by
 unfold Qad
 &mk0 Tryz.func12 ?_
 &ar ?_
 &ar ?_
 &cT [] [(3,λb1=>.own 0 0 b1.length)] [] [] [(0,λb1=>aO 5 (b1.map Inc.c))] 1 (λz2=>?_) λb1=>?_
 &ar ?_
 &xx (Qz 3 5 Od rfl) ?_
 &lP [6,7] [(3,λs5=>.own 0 0 s5.1.length),(8,λs5=>DI s5.2)] [] [] [(0,λs5=>aO 5 (s5.1.map Inc.c))] 1 λs5 y6 hq6=>?_
 &ar ?_
 &sq λK k=>?_
 &xs (λh8=>?_) λh8=>?_
 &ca ?_
 &sq λK k=>?_
 &au ?_
 &xa λv10 hv10=>?_
 &ar ?_
 &xc λh11=>?_
 &ar ?_
 &goA (QW (c:=Inc.c) s5.1 v10 h11 i52.ok i56.ok rfl rfl (.sl rfl (Qg (c:=Inc.c) (λ_=>rfl) _)) rfl) ?_
 &au ?_
 &ar ?_
 ~wJ [(0,1)]
 &cb ?_
 &xo hq6 ?_
 ~wJ []
 &ar ?_
 ~ft r1
theorem QgB{p0:List (List Inc)}{r:List Inc}(H:Sm (Qad p0) r):DCall Tryz.prog 12 [.sl (p0.map (lC Inc.c))] [] (.sl (r.map Inc.c)) [] :=
  (F_ref15_All_ok H).conv [] (by repeat' (first | ~CvL.nil | apply CvL.cons | ~.lit | ~.frzM rfl rfl | ~.own rfl | ~.sl | ~.ptr rfl | ~.nil | apply Cv.agg | apply Cv.tup)) (by repeat' (first | ~CvS.nil | apply CvS.cons rfl rfl | ~.arr rfl | apply CvO.box | ~CvL.nil | apply CvL.cons | ~.lit | ~.frzM rfl rfl | ~.own rfl | ~.sl | ~.ptr rfl | ~.nil | apply Cv.agg | apply Cv.tup)) rfl
noncomputable def ZH(p0:Sp)(p1:List Inc)(p2:Int):Option Bool :=
 if p2=0 then
 (some (false))
 else
 if (wu (p0.ws.length:Int))<p2 then
 (some (false))
 else
 if 0<=wu p0.sh then
 (at_ p0.fs (QbO .i64 (w64 (wu (p2-1))) (wu p0.sh))).bind λv5 =>
 bndR (Qh (λ(s9:Int) =>
 if s9<(p1.length:Int) then
 ((at_ p1 s9).bind λv14 =>
 if v5.ow=v14.seq then
 (some (.out (.inr (true))))
 else
 some (.go (w64 (s9+1))))
 else
 some (.out (.inl (())))) 0) λ(b6:Unit) =>
 some (false)
 else none
theorem Qab{p0 p1 p2 r}:Sm (ZH p0 p1 p2) r->DCall Tryz.prog 186 [.agg [DI p0.sh,.sl (p0.ws.map uC),.sl (p0.fs.map frC)],.sl (p1.map Inc.c),DU p2] [] (DB r) []:=by
 unfold ZH
 &mk0 Tryz.func186 ?_
 &ar ?_
 &sq λK k=>?_
 &xs (λh2=>?_) λh2=>?_
 &ar ?_
 &da ?_
 ~ft r0
 &ar ?_
 &xs (λh3=>?_) λh3=>?_
 &da ?_
 ~ft r0
 &cb ?_
 &xc λh4=>?_
 &xa λv5 hv5=>?_
 &ar ?_
 &cU [] [] [] [] [] 0 (λz7 hr7=>?_) λb6=>?_
 &ar ?_
 &lP [31,32] [(7,λs9=>.ptr 1 0 0),(33,λs9=>DI s9)] [1] [] [] 2 λs9 y10 hq10=>?_
 &ar ?_
 &sq λK k=>?_
 &xs (λh12=>?_) λh12=>?_
 &ca ?_
 &sq λK k=>?_
 &au ?_
 &xa λv14 hv14=>?_
 &ar ?_
 &ar ?_
 &xs (λh15=>?_) λh15=>?_
 &da ?_
 &xo hq10 ?_
 &xr hr7 ?_
 ~ft r0
 &db ?_
 ~wJ []
 &cb ?_
 &xo hq10 ?_
 ~wJ []
 &ar ?_
 ~ft r0
noncomputable def ZI(p0:Sp)(p1:List Inc):Option (List Int) :=
 (Qh (λ(s5:List Int×Int) =>
 if s5.2<(p0.fs.length:Int) then
 (((at_ p0.fs s5.2).bind λv11 =>
 Qh (λ(s13:Int) =>
 if s13<(p1.length:Int) then
 ((at_ p1 s13).bind λv18 =>
 if v11.ow=v18.seq then
 (if ((s5.1.length:Int)+[s5.2].length)*8<=140737488355328/\(s5.1.length:Int)+[s5.2].length<=9223372036854775807 then
 some (.out (s5.1++[s5.2]))
 else none)
 else
 some (.go (w64 (s13+1))))
 else
 some (.out (s5.1))) 0).bind λ(b9:List Int) =>
 some (.go ((b9,w64 (s5.2+1)))))
 else
 some (.out (s5.1))) (([]:List Int),0)).bind λ(b1:List Int) =>
 some (b1)
theorem QbE{p0 p1 r}:Sm (ZI p0 p1) r->DCall Tryz.prog 188 [.agg [DI p0.sh,.sl (p0.ws.map uC),.sl (p0.fs.map frC)],.sl (p1.map Inc.c)] [] (.own 0 0 r.length) [(0,aO 1 (r.map iC))]:=by
 unfold ZI
 &mk0 Tryz.func188 ?_
 &ar ?_
 &ar ?_
 &cT [] [(5,λb1=>.own 1 0 b1.length)] [] [] [(1,λb1=>aO 1 (b1.map iC))] 2 (λz2=>?_) λb1=>?_
 &ar ?_
 &xx (Qz 5 1 Od rfl) ?_
 &lP [1,11,12] [(5,λs5=>.own 1 0 s5.1.length),(13,λs5=>DI s5.2)] [] [] [(1,λs5=>aO 1 (s5.1.map iC))] 2 λs5 y6 hq6=>?_
 &ar ?_
 &sq λK k=>?_
 &xs (λh8=>?_) λh8=>?_
 &ca ?_
 &cT [1,11,12,13] [(5,λb9=>.own 2 0 b9.length)] [] [] [(2,λb9=>aO 1 (b9.map iC))] 3 (λz10=>?_) λb9=>?_
 &au ?_
 &xa λv11 hv11=>?_
 &ar ?_
 &ar ?_
 &lP [1,5,6,11,12,13,18,19] [(7,λs13=>.ptr 2 0 0),(20,λs13=>DI s13)] [1,2] [] [] 3 λs13 y14 hq14=>?_
 &ar ?_
 &sq λK k=>?_
 &xs (λh16=>?_) λh16=>?_
 &ca ?_
 &sq λK k=>?_
 &au ?_
 &xa λv18 hv18=>?_
 &ar ?_
 &ar ?_
 &xs (λh19=>?_) λh19=>?_
 &ca ?_
 &xc λh20=>?_
 &ar ?_
 &goA (Ql (c:=iC) ([s5.2]:List Int) i22.ok i3.ok) ?_
 &goA (QW (c:=iC) s5.1 [s5.2] h20 i22.ok i3.ok rfl rfl (.own rfl rfl Os (Qg (c:=iC) (λ_=>rfl) _)) rfl) ?_
 &au ?_
 &xo hq14 ?_
 ~wJ [(2,5)]
 &db ?_
 ~wJ []
 &cb ?_
 &xo hq14 ?_
 ~wJ [(2,1)]
 &ar ?_
 ~wJ [(1,2)]
 &cb ?_
 &xo hq6 ?_
 ~wJ []
 &ar ?_
 ~ft [(0,1)]
noncomputable def Jt(p0:List Int)(p1:Int):Option Bool :=
 bndR (Qh (λ(s4:Int) =>
 if s4<(p0.length:Int) then
 ((at_ p0 s4).bind λv9 =>
 if v9=p1 then
 (some (.out (.inr (true))))
 else
 some (.go (w64 (s4+1))))
 else
 some (.out (.inl (())))) 0) λ(b1:Unit) =>
 some (false)
theorem X1{p0 p1 r}:Sm (Jt p0 p1) r->DCall Tryz.prog 191 [.sl (p0.map iC),DI p1] [] (DB r) []:=by
 unfold Jt
 &mk0 Tryz.func191 ?_
 &ar ?_
 &cU [] [] [] [] [] 0 (λz2 hr2=>?_) λb1=>?_
 &ar ?_
 &lP [1,7,8] [(9,λs4=>DI s4)] [] [] [] 0 λs4 y5 hq5=>?_
 &ar ?_
 &sq λK k=>?_
 &xs (λh7=>?_) λh7=>?_
 &ca ?_
 &sq λK k=>?_
 &au ?_
 &xa λv9 hv9=>?_
 &ar ?_
 &ar ?_
 &xs (λh10=>?_) λh10=>?_
 &da ?_
 &xo hq5 ?_
 &xr hr2 ?_
 ~ft r0
 &db ?_
 ~wJ []
 &cb ?_
 &xo hq5 ?_
 ~wJ []
 &ar ?_
 ~ft r0
noncomputable def Js(p0:List Int)(p1:Int):Option (List Int) :=
 (Qh (λ(s4:Int) =>
 if s4<(p0.length:Int) then
 ((at_ p0 s4).bind λv8 =>
 if v8<p1 then
 (some (.go (w64 (s4+1))))
 else
 some (.out (s4)))
 else
 some (.out (s4))) 0).bind λ(b1:Int) =>
 if b1<(p0.length:Int) then
 ((at_ p0 b1).bind λv12 =>
 if v12=p1 then
 (some (p0))
 else
 if (0:Int)<=0/\0<=b1/\b1<=p0.length then
 if (((p0.take (Int.toNat b1)).drop (Int.toNat 0)).length:Int)*8<=140737488355328/\(((p0.take (Int.toNat b1)).drop (Int.toNat 0)).length:Int)<=9223372036854775807 then
 if ((((p0.take (Int.toNat b1)).drop (Int.toNat 0)).length:Int)+[p1].length)*8<=140737488355328/\(((p0.take (Int.toNat b1)).drop (Int.toNat 0)).length:Int)+[p1].length<=9223372036854775807 then
 if 0<=b1/\b1<=(p0.length:Int)/\(p0.length:Int)<=p0.length then
 if (((((p0.take (Int.toNat b1)).drop (Int.toNat 0))++[p1]).length:Int)+((p0.take (Int.toNat (p0.length:Int))).drop (Int.toNat b1)).length)*8<=140737488355328/\((((p0.take (Int.toNat b1)).drop (Int.toNat 0))++[p1]).length:Int)+((p0.take (Int.toNat (p0.length:Int))).drop (Int.toNat b1)).length<=9223372036854775807 then
 some ((((p0.take (Int.toNat b1)).drop (Int.toNat 0))++[p1])++((p0.take (Int.toNat (p0.length:Int))).drop (Int.toNat b1)))
 else none
 else none
 else none
 else none
 else none)
 else
 if (0:Int)<=0/\0<=b1/\b1<=p0.length then
 if (((p0.take (Int.toNat b1)).drop (Int.toNat 0)).length:Int)*8<=140737488355328/\(((p0.take (Int.toNat b1)).drop (Int.toNat 0)).length:Int)<=9223372036854775807 then
 if ((((p0.take (Int.toNat b1)).drop (Int.toNat 0)).length:Int)+[p1].length)*8<=140737488355328/\(((p0.take (Int.toNat b1)).drop (Int.toNat 0)).length:Int)+[p1].length<=9223372036854775807 then
 if 0<=b1/\b1<=(p0.length:Int)/\(p0.length:Int)<=p0.length then
 if (((((p0.take (Int.toNat b1)).drop (Int.toNat 0))++[p1]).length:Int)+((p0.take (Int.toNat (p0.length:Int))).drop (Int.toNat b1)).length)*8<=140737488355328/\((((p0.take (Int.toNat b1)).drop (Int.toNat 0))++[p1]).length:Int)+((p0.take (Int.toNat (p0.length:Int))).drop (Int.toNat b1)).length<=9223372036854775807 then
 some ((((p0.take (Int.toNat b1)).drop (Int.toNat 0))++[p1])++((p0.take (Int.toNat (p0.length:Int))).drop (Int.toNat b1)))
 else none
 else none
 else none
 else none
 else none
theorem QcI{p0 p1 r}:Sm (Js p0 p1) r->DCall Tryz.prog 184 [.sl (p0.map iC),DI p1] [] (.sl (r.map iC)) []:=by
 unfold Js
 &mk0 Tryz.func184 ?_
 &ar ?_
 &ar ?_
 &cT [0,1] [(5,λb1=>DI b1)] [] [] [] 0 (λz2=>?_) λb1=>?_
 &au ?_
 &lP [0,1] [(5,λs4=>DI s4)] [] [] [] 0 λs4 y5 hq5=>?_
 &sq λK k=>?_
 &xs (λh7=>?_) λh7=>?_
 &xa λv8 hv8=>?_
 &ar ?_
 &xs (λh9=>?_) λh9=>?_
 &da ?_
 ~wJ []
 &cb ?_
 &xo hq5 ?_
 ~wJ []
 &ar ?_
 &cb ?_
 &xo hq5 ?_
 ~wJ []
 &sq λK k=>?_
 &xs (λh11=>?_) λh11=>?_
 &xa λv12 hv12=>?_
 &ar ?_
 &xs (λh13=>?_) λh13=>?_
 &da ?_
 ~ft r0
 &cb ?_
 &xc λh14=>?_
 &xc λh15=>?_
 &ar ?_
 &goA (m_slS (a:=0) (b:=b1) h14 i22.ok i3.ok (.inl ⟨rfl,rfl⟩) (.inr ⟨_,_,rfl,rfl⟩)) ?_
 &goA (QbU (c:=iC) ((p0.take (Int.toNat b1)).drop (Int.toNat 0)) h15 i22.ok i3.ok rfl (.sl rfl (Qg (c:=iC) (λ_=>rfl) _))) ?_
 &au ?_
 &xc λh16=>?_
 &xc λh17=>?_
 &xc λh18=>?_
 &ar ?_
 &goA (Ql (c:=iC) ([p1]:List Int) i22.ok i3.ok) ?_
 &goA (QW (c:=iC) ((p0.take (Int.toNat b1)).drop (Int.toNat 0)) [p1] h16 i22.ok i3.ok rfl rfl (.own rfl rfl Os (Qg (c:=iC) (λ_=>rfl) _)) rfl) ?_
 &au ?_
 &goA (m_slS (a:=b1) (b:=(p0.length:Int)) h17 i22.ok i3.ok (.inr ⟨_,_,rfl,rfl⟩) (.inl ⟨rfl,rfl⟩)) ?_
 &goA (QW (c:=iC) (((p0.take (Int.toNat b1)).drop (Int.toNat 0))++[p1]) ((p0.take (Int.toNat (p0.length:Int))).drop (Int.toNat b1)) h18 i22.ok i3.ok rfl rfl (.sl rfl (Qg (c:=iC) (λ_=>rfl) _)) rfl) ?_
 &au ?_
 ~ft r0
 &ar ?_
 &cb ?_
 &xc λh19=>?_
 &xc λh20=>?_
 &ar ?_
 &goA (m_slS (a:=0) (b:=b1) h19 i22.ok i3.ok (.inl ⟨rfl,rfl⟩) (.inr ⟨_,_,rfl,rfl⟩)) ?_
 &goA (QbU (c:=iC) ((p0.take (Int.toNat b1)).drop (Int.toNat 0)) h20 i22.ok i3.ok rfl (.sl rfl (Qg (c:=iC) (λ_=>rfl) _))) ?_
 &au ?_
 &xc λh21=>?_
 &xc λh22=>?_
 &xc λh23=>?_
 &ar ?_
 &goA (Ql (c:=iC) ([p1]:List Int) i22.ok i3.ok) ?_
 &goA (QW (c:=iC) ((p0.take (Int.toNat b1)).drop (Int.toNat 0)) [p1] h21 i22.ok i3.ok rfl rfl (.own rfl rfl Os (Qg (c:=iC) (λ_=>rfl) _)) rfl) ?_
 &au ?_
 &goA (m_slS (a:=b1) (b:=(p0.length:Int)) h22 i22.ok i3.ok (.inr ⟨_,_,rfl,rfl⟩) (.inl ⟨rfl,rfl⟩)) ?_
 &goA (QW (c:=iC) (((p0.take (Int.toNat b1)).drop (Int.toNat 0))++[p1]) ((p0.take (Int.toNat (p0.length:Int))).drop (Int.toNat b1)) h23 i22.ok i3.ok rfl rfl (.sl rfl (Qg (c:=iC) (λ_=>rfl) _)) rfl) ?_
 &au ?_
 ~ft r0
noncomputable def Xn(p0:Int):Option (Int×Int×Int×Bool×Int) :=
 if (Int.tmod p0 2)=1 then
 (if 16384<=(wu (Int.tdiv p0 2)) then
 (some ((0,0,0,false,12)))
 else
 some ((0,0,w64 (wu (Int.tdiv p0 2)),true,0)))
 else
 if 48<(wu (Int.tdiv p0 256)) then
 (some ((0,0,0,false,12)))
 else
 if 15<(w64 (wu (Int.tdiv (Int.tmod p0 256) 2))) then
 (some ((0,0,0,false,12)))
 else
 if (w64 (wu (Int.tdiv p0 256)))<(w64 (1+(w64 (wu (Int.tdiv (Int.tmod p0 256) 2))))) then
 (some ((0,0,0,false,12)))
 else
 if 32<(w64 ((w64 ((w64 (wu (Int.tdiv p0 256)))-1))-(w64 (wu (Int.tdiv (Int.tmod p0 256) 2))))) then
 (some ((0,0,0,false,12)))
 else
 some ((w64 (wu (Int.tdiv (Int.tmod p0 256) 2)),w64 ((w64 ((w64 (wu (Int.tdiv p0 256)))-1))-(w64 (wu (Int.tdiv (Int.tmod p0 256) 2)))),0,false,0))
theorem QbJ{p0 r}:Sm (Xn p0) r->DCall Tryz.prog 53 [DU p0] [] (.tup [DI r.1,DI r.2.1,DI r.2.2.1,DB r.2.2.2.1,DI r.2.2.2.2]) []:=by
 unfold Xn
 &mk0 Tryz.func53 ?_
 &ar ?_
 &sq λK k=>?_
 &ar ?_
 &xs (λh2=>?_) λh2=>?_
 &ca ?_
 &sq λK k=>?_
 &ar ?_
 &xs (λh4=>?_) λh4=>?_
 &da ?_
 ~Qby r0
 &db ?_
 ~Qby r0
 &db ?_
 &sq λK k=>?_
 &xs (λh6=>?_) λh6=>?_
 &ar ?_
 &da ?_
 ~Qby r0
 &xs (λh7=>?_) λh7=>?_
 &ar ?_
 &da ?_
 ~Qby r0
 &xs (λh8=>?_) λh8=>?_
 &ar ?_
 &da ?_
 ~Qby r0
 &ar ?_
 &xs (λh9=>?_) λh9=>?_
 &da ?_
 ~Qby r0
 &db ?_
 ~Qby r0
noncomputable def QM(p0:Sp)(p1:Int)(p2:Int):Option (Int×Int) :=
 if p1<0 then
 (some ((0,2)))
 else
 if (p0.ws.length:Int)<=p1 then
 (some ((0,2)))
 else
 if p2<0 then
 (some ((0,2)))
 else
 if 0<=wu p0.sh then
 (at_ p0.fs (QbO .i64 p1 (wu p0.sh))).bind λv7 =>
 if v7.ow=(-1) then
 (some ((0,5)))
 else
 bndR (Qh (λ(s12:Int×Int×Int) =>
 if (w64 ((Qa9 .i64 1 (wu p0.sh))-s12.2.2))<=s12.1 then
 ((at_ p0.fs s12.2.1).bind λv16 =>
 if v16.nx=(-1) then
 (some (.out (.inr ((0,2)))))
 else
 some (.go ((w64 (s12.1-(w64 ((Qa9 .i64 1 (wu p0.sh))-s12.2.2))),v16.nx,0))))
 else
 some (.out (.inl ((s12.1,s12.2.1,s12.2.2))))) (p2,QbO .i64 p1 (wu p0.sh),bits .and .i64 p1 (w64 ((Qa9 .i64 1 (wu p0.sh))-1)))) λ(b9:Int×Int×Int) =>
 some ((w64 ((w64 ((Qa9 .i64 b9.2.1 (wu p0.sh))+b9.2.2))+b9.1),0))
 else none
theorem QP{p0 p1 p2 r}:Sm (QM p0 p1 p2) r->DCall Tryz.prog 27 [.agg [DI p0.sh,.sl (p0.ws.map uC),.sl (p0.fs.map frC)],DI p1,DI p2] [] (.tup [DI r.1,DI r.2]) []:=by
 unfold QM
 &mk0 Tryz.func27 ?_
 &ar ?_
 &sq λK k=>?_
 &xs (λh2=>?_) λh2=>?_
 &ar ?_
 &da ?_
 ~ftt r0
 &xs (λh3=>?_) λh3=>?_
 &ar ?_
 &da ?_
 ~ftt r0
 &ar ?_
 &xs (λh4=>?_) λh4=>?_
 &da ?_
 ~ftt r0
 &cb ?_
 &xc λh5=>?_
 &ar ?_
 &sq λK k=>?_
 &xa λv7 hv7=>?_
 &ar ?_
 &xs (λh8=>?_) λh8=>?_
 &da ?_
 ~ftt r0
 &cb ?_
 &cU [] [(2,λb9=>DI b9.1),(3,λb9=>.ptr 0 0 0),(8,λb9=>DI b9.2.1),(9,λb9=>DI b9.2.2)] [0] [] [] 1 (λz10 hr10=>?_) λb9=>?_
 &au ?_
 &lP [] [(2,λs12=>DI s12.1),(3,λs12=>.ptr 0 0 0),(8,λs12=>DI s12.2.1),(9,λs12=>DI s12.2.2)] [0] [] [] 1 λs12 y13 hq13=>?_
 &sq λK k=>?_
 &ar ?_
 &xs (λh15=>?_) λh15=>?_
 &da ?_
 &xa λv16 hv16=>?_
 &ar ?_
 &ar ?_
 &xs (λh17=>?_) λh17=>?_
 &da ?_
 &xo hq13 ?_
 &xr hr10 ?_
 ~ftt r0
 &cb ?_
 ~wJ []
 &cb ?_
 &xo hq13 ?_
 ~wJ []
 &ar ?_
 ~ftt r0
end Go.Proofs.YtkfnkecgcdhncaaGreat
