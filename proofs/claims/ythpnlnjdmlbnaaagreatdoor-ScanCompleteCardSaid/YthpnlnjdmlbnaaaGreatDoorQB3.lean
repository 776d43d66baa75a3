/- Parts of the proof. No condition. -/
import Derived.Test.YthpnlnjdmlbnaaaGreatDoorQB0
import Derived.Test.YthpnlnjdmlbnaaaGreatDoorQB2
namespace Go.Proofs.YthpnlnjdmlbnaaaGreatDoor
open Go.RowKit
set_option linter.unusedSimpArgs false
set_option linter.unusedVariables false
set_option maxRecDepth 20000
set_option maxHeartbeats 40000000
structure Qc where
  l:List Int
  pos:Int
def Qc.c(x:Qc):List DV:=[.sl (x.l.map iC),DI x.pos]
def Qc.d(x:Qc):List DV:=[.dp 1 (x.l.map iC),DI x.pos]
structure Rul where
  share:Nat
  limit:Int
  batch:Int
  target:Int
def Rul.c(x:Rul):List DV:=[.lit (.float .f64 x.share),DI x.limit,DI x.batch,DI x.target]
structure Cfg where
  name:ByteArray
  rules:List Rul
  full:Int
def Cfg.c(x:Cfg):List DV:=[.lit (.string x.name),.sl (x.rules.map Rul.c),DI x.full]
def Cfg.d(x:Cfg):List DV:=[.lit (.string x.name),.dp 4 (x.rules.map Rul.c),DI x.full]
structure Inc where
  seq:Int
  belt:Int
  first:Int
  last:Int
  words:Int
def Inc.c(x:Inc):List DV:=[DI x.seq,DI x.belt,DI x.first,DI x.last,DI x.words]
structure Qe where
  frm:Int
  to:Int
  slots:List Int
def Qe.c(x:Qe):List DV:=[DI x.frm,DI x.to,.sl (x.slots.map iC)]
def Qe.d(x:Qe):List DV:=[DI x.frm,DI x.to,.dp 1 (x.slots.map iC)]
structure Rts where
  used:List Bool
  refs:List Int
def Rts.c(x:Rts):List DV:=[.sl (x.used.map bC),.sl (x.refs.map uC)]
def Rts.d(x:Rts):List DV:=[.dp 1 (x.used.map bC),.dp 1 (x.refs.map uC)]
structure Sts where
  allocated:Int
  objects:Int
  collections:Int
  steps:Int
  rounds:Int
  condemned:Int
  copied:Int
  entries:Int
  work:Int
def Sts.c(x:Sts):List DV:=[DI x.allocated,DI x.objects,DI x.collections,DI x.steps,DI x.rounds,DI x.condemned,DI x.copied,DI x.entries,DI x.work]
structure Hp where
  config:Cfg
  space:Sp
  belts:List (List Inc)
  seq:Int
  sets:List Qe
  roots:Rts
  since:Int
  stats:Sts
  dead:Bool
def Hp.c(x:Hp):List DV:=[.lit (.string x.config.name),.sl (x.config.rules.map Rul.c),DI x.config.full,DI x.space.sh,.sl (x.space.ws.map uC),.sl (x.space.fs.map frC),.sl (x.belts.map (lC Inc.c)),DI x.seq,.sl (x.sets.map Qe.c),.sl (x.roots.used.map bC),.sl (x.roots.refs.map uC),DI x.since,DI x.stats.allocated,DI x.stats.objects,DI x.stats.collections,DI x.stats.steps,DI x.stats.rounds,DI x.stats.condemned,DI x.stats.copied,DI x.stats.entries,DI x.stats.work,DB x.dead]
def Hp.d(x:Hp):List DV:=[.lit (.string x.config.name),.dp 4 (x.config.rules.map Rul.c),DI x.config.full,DI x.space.sh,.dp 1 (x.space.ws.map uC),.dp 3 (x.space.fs.map frC),.dp 1 (x.belts.map (lC Inc.c)),DI x.seq,.dp 3 (x.sets.map Qe.c),.dp 1 (x.roots.used.map bC),.dp 1 (x.roots.refs.map uC),DI x.since,DI x.stats.allocated,DI x.stats.objects,DI x.stats.collections,DI x.stats.steps,DI x.stats.rounds,DI x.stats.condemned,DI x.stats.copied,DI x.stats.entries,DI x.stats.work,DB x.dead]
structure Nod where
  refs:List Int
  data:List Int
def Nod.c(x:Nod):List DV:=[.sl (x.refs.map iC),.sl (x.data.map uC)]
def Nod.d(x:Nod):List DV:=[.dp 1 (x.refs.map iC),.dp 1 (x.data.map uC)]
structure Gra where
  nodes:List Nod
  used:List Bool
  roots:List Int
def Gra.c(x:Gra):List DV:=[.sl (x.nodes.map Nod.c),.sl (x.used.map bC),.sl (x.roots.map iC)]
def Gra.d(x:Gra):List DV:=[.dp 2 (x.nodes.map Nod.c),.dp 1 (x.used.map bC),.dp 1 (x.roots.map iC)]
structure AOp where
  code:Int
  a:Int
  b:Int
  c_:Int
def AOp.c(x:AOp):List DV:=[DI x.code,DI x.a,DI x.b,DI x.c_]
structure Ans where
  err:Int
  value:Int
def Ans.c(x:Ans):List DV:=[DI x.err,DU x.value]
structure Cur where
  belt:Int
  begun:Bool
  last:Int
def Cur.c(x:Cur):List DV:=[DI x.belt,DB x.begun,DI x.last]
structure Rpt where
  condemned:Int
  survived:Int
  entries:Int
  work:Int
def Rpt.c(x:Rpt):List DV:=[DI x.condemned,DI x.survived,DI x.entries,DI x.work]
structure Mov where
  frm:Int
  to:Int
def Mov.c(x:Mov):List DV:=[DI x.frm,DI x.to]
structure Qn where
  s:Sp
  l:List Inc
  to:Inc
  moves:List Mov
  e:Int
def Qn.c(x:Qn):List DV:=[DI x.s.sh,.sl (x.s.ws.map uC),.sl (x.s.fs.map frC),.sl (x.l.map Inc.c),DI x.to.seq,DI x.to.belt,DI x.to.first,DI x.to.last,DI x.to.words,.sl (x.moves.map Mov.c),DI x.e]
def Qn.d(x:Qn):List DV:=[DI x.s.sh,.dp 1 (x.s.ws.map uC),.dp 3 (x.s.fs.map frC),.dp 5 (x.l.map Inc.c),DI x.to.seq,DI x.to.belt,DI x.to.first,DI x.to.last,DI x.to.words,.dp 2 (x.moves.map Mov.c),DI x.e]
noncomputable def QbP(p0:List Int):Option Qc :=
 some (Qc.mk p0 0)
theorem F_make_New_ok{p0 r}:Sm (QbP p0) r->DCall Tryz.prog 12 [.sl (p0.map iC)] [] (.ptr 0 0 0) [(0,bO 2 [.sl (r.l.map iC),DI r.pos])]:=by
 unfold QbP
 refine mk0 Tryz.func12 ?_
 refine ar ?_
 refine ar ?_
 exact ft r1
noncomputable def QaD(p0:Int)(p1:Int):Option Int :=
 if ¬ p1=0 then
 if (Int.tmod p0 p1) < 0 then
 (some (w64 ((Int.tmod p0 p1)+p1)))
 else
 some (Int.tmod p0 p1)
 else none
theorem F_make_Mod_ok{p0 p1 r}:Sm (QaD p0 p1) r->DCall Tryz.prog 17 [DI p0,DI p1] [] (DI r) []:=by
 unfold QaD
 refine mk0 Tryz.func17 ?_
 refine ar ?_
 refine xc λh1=>?_
 refine ar ?_
 refine sq λK k=>?_
 refine ar ?_
 refine xs (λh3=>?_) λh3=>?_
 refine da ?_
 refine ar ?_
 exact ft r0
 refine db ?_
 exact ft r0
noncomputable def JP :Option (List ByteArray) :=
 some ([(ByteArray.mk #[115,101,109,105,115,112,97,99,101]),(ByteArray.mk #[97,112,112,101,108]),(ByteArray.mk #[102,105,120,101,100]),(ByteArray.mk #[111,108,100,101,114,45,102,105,114,115,116]),(ByteArray.mk #[120,120]),(ByteArray.mk #[120,120,49,48,48])])
theorem Qdw{r}:Sm (JP) r->DCall Tryz.prog 91 [] [] (.own 0 0 r.length) [(0,aO 1 (r.map sC))]:=by
 unfold JP
 refine mk0 Tryz.func91 ?_
 refine ar ?_
 refine ar ?_
 refine goA (Qk (c:=sC) ([(ByteArray.mk #[115,101,109,105,115,112,97,99,101]),(ByteArray.mk #[97,112,112,101,108]),(ByteArray.mk #[102,105,120,101,100]),(ByteArray.mk #[111,108,100,101,114,45,102,105,114,115,116]),(ByteArray.mk #[120,120]),(ByteArray.mk #[120,120,49,48,48])]:List ByteArray) i156.ok i9.ok) ?_
 refine au ?_
 exact ft r1
noncomputable def Zc(p0:Int):Option (Nat×Int) :=
 if p0 < 0 then
 (some ((0,1)))
 else
 if 100 < p0 then
 (some ((0,1)))
 else
 (FloatKind.f64.format.div (FloatKind.f64.nearest p0) 4636737291354636288).bind λv4 =>
 some ((v4,0))
theorem Qaf{p0 r}:Sm (Zc p0) r->DCall Tryz.prog 149 [DI p0] [] (.tup [.lit (.float .f64 r.1),DI r.2]) []:=by
 unfold Zc
 refine mk0 Tryz.func149 ?_
 refine ar ?_
 refine sq λK k=>?_
 refine xs (λh2=>?_) λh2=>?_
 refine ar ?_
 refine da ?_
 exact ftt r0
 refine ar ?_
 refine xs (λh3=>?_) λh3=>?_
 refine da ?_
 exact ftt r0
 refine cb ?_
 refine xd λv4 hv4=>?_
 refine ar ?_
 refine goA (m_fcv i3.ok i129.ok) ?_
 refine goA (m_fqu hv4.h) ?_
 refine au ?_
 exact ftt r0
noncomputable def Zj(p0:ByteArray):Option Bool :=
 bndR (Qi (λ(s4:Int) =>
 if s4 < (p0.size:Int) then
 ((sAt p0 s4).bind λv9 =>
 if 97<=v9 then
 (if v9<=122 then
 (some (.go (w64 (s4+1))))
 else
 if s4=0 then
 (some (.out (.inr (false))))
 else
 if v9=45 then
 (some (.go (w64 (s4+1))))
 else
 if v9 < 48 then
 (some (.out (.inr (false))))
 else
 if 57 < v9 then
 (some (.out (.inr (false))))
 else
 some (.go (w64 (s4+1))))
 else
 if s4=0 then
 (some (.out (.inr (false))))
 else
 if v9=45 then
 (some (.go (w64 (s4+1))))
 else
 if v9 < 48 then
 (some (.out (.inr (false))))
 else
 if 57 < v9 then
 (some (.out (.inr (false))))
 else
 some (.go (w64 (s4+1))))
 else
 some (.out (.inl (())))) 0) λ(b1:Unit) =>
 if 1<=(p0.size:Int) then
 (some (decide ((p0.size:Int)<=16)))
 else
 some (false)
theorem Qdx{p0 r}:Sm (Zj p0) r->DCall Tryz.prog 170 [.lit (.string p0)] [] (DB r) []:=by
 unfold Zj
 refine mk0 Tryz.func170 ?_
 refine ar ?_
 refine cU [0] [] [] [] [] 0 (λz2 hr2=>?_) λb1=>?_
 refine ar ?_
 refine lP [0] [(3,λs4=>DI s4)] [] [] [] 0 λs4 y5 hq5=>?_
 refine sq λK k=>?_
 refine ar ?_
 refine goA (m_lenS i9.ok) ?_
 refine au ?_
 refine xs (λh7=>?_) λh7=>?_
 refine ca ?_
 refine sq λK k=>?_
 refine au ?_
 refine xd λv9 hv9=>?_
 refine ar ?_
 refine goA (m_idS hv9.h i9.ok) ?_
 refine au ?_
 refine xs (λh10=>?_) λh10=>?_
 refine ar ?_
 refine xs (λh11=>?_) λh11=>?_
 refine ar ?_
 refine db ?_
 exact wJ []
 refine xs (λh12=>?_) λh12=>?_
 refine ar ?_
 refine da ?_
 refine xo hq5 ?_
 refine xr hr2 ?_
 exact ft r0
 refine xs (λh13=>?_) λh13=>?_
 refine ar ?_
 refine db ?_
 exact wJ []
 refine xs (λh14=>?_) λh14=>?_
 refine ar ?_
 refine da ?_
 refine xo hq5 ?_
 refine xr hr2 ?_
 exact ft r0
 refine ar ?_
 refine xs (λh15=>?_) λh15=>?_
 refine da ?_
 refine xo hq5 ?_
 refine xr hr2 ?_
 exact ft r0
 refine db ?_
 exact wJ []
 refine ar ?_
 refine xs (λh16=>?_) λh16=>?_
 refine ar ?_
 refine da ?_
 refine xo hq5 ?_
 refine xr hr2 ?_
 exact ft r0
 refine xs (λh17=>?_) λh17=>?_
 refine ar ?_
 refine db ?_
 exact wJ []
 refine xs (λh18=>?_) λh18=>?_
 refine ar ?_
 refine da ?_
 refine xo hq5 ?_
 refine xr hr2 ?_
 exact ft r0
 refine ar ?_
 refine xs (λh19=>?_) λh19=>?_
 refine da ?_
 refine xo hq5 ?_
 refine xr hr2 ?_
 exact ft r0
 refine db ?_
 exact wJ []
 refine cb ?_
 refine xo hq5 ?_
 exact wJ []
 refine xs (λh20=>?_) λh20=>?_
 refine ar ?_
 refine goA (m_lenS i9.ok) ?_
 refine au ?_
 refine go (m_lenS i9.ok) ?_ (gY (decide_eq_true h20))
 refine au ?_
 exact ft r0
 refine ar ?_
 refine goA (m_lenS i9.ok) ?_
 refine au ?_
 exact ft r0
noncomputable def Xn(p0:Nat):Option Bool :=
 if ((p0:Nat):Int)=0 then
 (some (true))
 else
 if (Qez .gtr p0 0)=true then
 (some ((Qez .leq p0 4607182418800017408)))
 else
 some (false)
theorem Qa4{p0 r}:Sm (Xn p0) r->DCall Tryz.prog 171 [.lit (.float .f64 p0)] [] (DB r) []:=by
 unfold Xn
 refine mk0 Tryz.func171 ?_
 refine ar ?_
 refine xs (λh1=>?_) λh1=>?_
 refine ar ?_
 refine goA (m_ext1 (u:=.float .f64 p0) (v:=.int .u64 ((p0:Nat):Int)) (λ_=>by rw [run_callFunc_extern Tryz.func204 Ok Ok Ok (e:=Extern.MathFloatBits.float64bits) Ok];rfl) rfl) ?_
 refine au ?_
 exact ft r0
 refine xs (λh2=>?_) λh2=>?_
 refine ar ?_
 refine goA (m_ext1 (u:=.float .f64 p0) (v:=.int .u64 ((p0:Nat):Int)) (λ_=>by rw [run_callFunc_extern Tryz.func204 Ok Ok Ok (e:=Extern.MathFloatBits.float64bits) Ok];rfl) rfl) ?_
 refine au ?_
 refine go (Qdm (.inr (.inr (.inr (.inr (.inl rfl)))))) ?_ (gY (decide_eq_false h1))
 refine au ?_
 refine go (Qdm (.inr (.inr (.inr (.inl rfl))))) ?_ (gY h2)
 refine au ?_
 exact ft r0
 refine ar ?_
 refine goA (m_ext1 (u:=.float .f64 p0) (v:=.int .u64 ((p0:Nat):Int)) (λ_=>by rw [run_callFunc_extern Tryz.func204 Ok Ok Ok (e:=Extern.MathFloatBits.float64bits) Ok];rfl) rfl) ?_
 refine au ?_
 refine go (Qdm (.inr (.inr (.inr (.inr (.inl rfl)))))) ?_ (gY (decide_eq_false h1))
 refine au ?_
 exact ft r0
noncomputable def Zm(p0:Int):Option Bool :=
 if 3<=p0 then
 (some (decide (p0<=8)))
 else
 some (false)
theorem Xx{p0 r}:Sm (Zm p0) r->DCall Tryz.prog 99 [DI p0] [] (DB r) []:=by
 unfold Zm
 refine mk0 Tryz.func99 ?_
 refine ar ?_
 refine xs (λh1=>?_) λh1=>?_
 refine ar ?_
 exact ft r0
 refine ar ?_
 exact ft r0
noncomputable def JX :Option Rts :=
 if 0<=(32:Int)/\(32:Int) * 1<=281474976710656/\(32:Int)<=9223372036854775807 then
 if 0<=(32:Int)/\(32:Int) * 8<=281474976710656/\(32:Int)<=9223372036854775807 then
 some (Rts.mk (List.replicate (Int.toNat 32) false) (List.replicate (Int.toNat 32) (0:Int)))
 else none
 else none
theorem F_ref20_New_ok{r}:Sm (JX) r->DCall Tryz.prog 131 [] [] (.agg [.own 0 0 r.used.length,.own 1 0 r.refs.length]) [(0,aO 1 (r.used.map bC)),(1,aO 1 (r.refs.map uC))]:=by
 unfold JX
 refine mk0 Tryz.func131 ?_
 refine ar ?_
 refine xc λh1=>?_
 refine xc λh2=>?_
 refine ar ?_
 refine goA (Qeh (c:=bC) false h1 i32.ok i4.ok) ?_
 refine goA (Qeh (c:=uC) 0 h2 i26.ok i62.ok) ?_
 refine au ?_
 exact fw [(0,1),(1,2)]
noncomputable def JV :Option Gra :=
 if 0<=(32:Int)/\(32:Int) * 1<=281474976710656/\(32:Int)<=9223372036854775807 then
 if 0<=(32:Int)/\(32:Int) * 8<=281474976710656/\(32:Int)<=9223372036854775807 then
 (Qi (λ(s6:List Int×Int) =>
 if s6.2 < ((List.replicate (Int.toNat 32) (0:Int)).length:Int) then
 ((at_ s6.1 s6.2).bind λv11 =>
 some (.go ((s6.1.set (Int.toNat s6.2) (-1),w64 (s6.2+1)))))
 else
 some (.out (s6.1))) (List.replicate (Int.toNat 32) (0:Int),0)).bind λ(b3:List Int) =>
 some (Gra.mk ([]:List Nod) (List.replicate (Int.toNat 32) false) b3)
 else none
 else none
theorem F_ref29_New_ok{r}:Sm (JV) r->DCall Tryz.prog 85 [] [] (.agg [.own 0 0 r.nodes.length,.own 1 0 r.used.length,.own 2 0 r.roots.length]) [(0,aO 2 (r.nodes.map Nod.c)),(1,aO 1 (r.used.map bC)),(2,aO 1 (r.roots.map iC))]:=by
 unfold JV
 refine mk0 Tryz.func85 ?_
 refine ar ?_
 refine xc λh1=>?_
 refine xc λh2=>?_
 refine ar ?_
 refine goA (Qeh (c:=bC) false h1 i32.ok i4.ok) ?_
 refine goA (Qeh (c:=iC) 0 h2 i22.ok i3.ok) ?_
 refine au ?_
 refine cT [] [(0,λb3=>.ptr 0 0 0),(1,λb3=>.ptr 3 0 0)] [0,1] [] [(2,λb3=>aO 1 (b3.map iC)),(3,λb3=>bO 3 [DN,.own 1 0 (List.replicate (Int.toNat 32) false).length,.own 2 0 b3.length])] 4 (λz4=>?_) λb3=>?_
 refine ar ?_
 refine lP [8] [(0,λs6=>.ptr 0 0 0),(1,λs6=>.ptr 3 0 0),(9,λs6=>DI s6.2)] [0,1] [] [(2,λs6=>aO 1 (s6.1.map iC)),(3,λs6=>bO 3 [DN,.own 1 0 (List.replicate (Int.toNat 32) false).length,.own 2 0 s6.1.length])] 4 λs6 y7 hq7=>?_
 refine ar ?_
 refine sq λK k=>?_
 refine xs (λh9=>?_) λh9=>?_
 refine ca ?_
 refine sq λK k=>?_
 refine ar ?_
 refine xa λv11 hv11=>?_
 refine ar ?_
 refine goA (Z2 (c:=iC) hv11.h (-1) i3.ok) ?_
 refine au ?_
 refine ar ?_
 exact wJ []
 refine cb ?_
 refine xo hq7 ?_
 exact wJ []
 refine ar ?_
 refine xx (Qg 0 0 2 Od rfl rfl) ?_
 exact fw [(0,4),(1,1),(2,2)]
noncomputable def JG(p0:Qc):Option (Bool×Qc) :=
 some ((decide (p0.pos < (p0.l.length:Int)),p0))
theorem Qck{p0 r}:Sm (JG p0) r->DCall Tryz.prog 86 [.ptr 0 0 0] [(0,bO 2 [.sl (p0.l.map iC),DI p0.pos])] (DB r.1) [(0,bO 2 [.sl (r.2.l.map iC),DI r.2.pos])]:=by
 unfold JG
 refine mk0 Tryz.func86 ?_
 refine ar ?_
 refine ar ?_
 exact ft r1
noncomputable def Qp(p0:Hp)(p1:Int):Option (Hp×Ans) :=
 some ((p0,Ans.mk p1 0))
theorem Ql{p0 p1 r}:Sm (Qp p0 p1) r->DCall Tryz.prog 133 [.agg [.lit (.string p0.config.name),.sl (p0.config.rules.map Rul.c),DI p0.config.full,DI p0.space.sh,.sl (p0.space.ws.map uC),.sl (p0.space.fs.map frC),.sl (p0.belts.map (lC Inc.c)),DI p0.seq,.sl (p0.sets.map Qe.c),.sl (p0.roots.used.map bC),.sl (p0.roots.refs.map uC),DI p0.since,DI p0.stats.allocated,DI p0.stats.objects,DI p0.stats.collections,DI p0.stats.steps,DI p0.stats.rounds,DI p0.stats.condemned,DI p0.stats.copied,DI p0.stats.entries,DI p0.stats.work,DB p0.dead],DI p1] [] (.tup [.agg [.lit (.string r.1.config.name),.sl (r.1.config.rules.map Rul.c),DI r.1.config.full,DI r.1.space.sh,.sl (r.1.space.ws.map uC),.sl (r.1.space.fs.map frC),.sl (r.1.belts.map (lC Inc.c)),DI r.1.seq,.sl (r.1.sets.map Qe.c),.sl (r.1.roots.used.map bC),.sl (r.1.roots.refs.map uC),DI r.1.since,DI r.1.stats.allocated,DI r.1.stats.objects,DI r.1.stats.collections,DI r.1.stats.steps,DI r.1.stats.rounds,DI r.1.stats.condemned,DI r.1.stats.copied,DI r.1.stats.entries,DI r.1.stats.work,DB r.1.dead],.agg [DI r.2.err,DU r.2.value]]) []:=by
 unfold Qp
 refine mk0 Tryz.func133 ?_
 refine ar ?_
 refine ar ?_
 exact fww r0
noncomputable def Xc(p0:Int)(p1:Int):Option (Int×Int) :=
 if p0 < 0 then
 (some ((0,13)))
 else
 if 15 < p0 then
 (some ((0,13)))
 else
 if p1 < 0 then
 (some ((0,13)))
 else
 if 32 < p1 then
 (some ((0,13)))
 else
 some ((wu (w64 ((w64 ((w64 ((w64 (1+p0))+p1)) * 256))+(w64 (p0 * 2)))),0))
theorem J0{p0 p1 r}:Sm (Xc p0 p1) r->DCall Tryz.prog 172 [DI p0,DI p1] [] (.tup [DU r.1,DI r.2]) []:=by
 unfold Xc
 refine mk0 Tryz.func172 ?_
 refine ar ?_
 refine sq λK k=>?_
 refine xs (λh2=>?_) λh2=>?_
 refine ar ?_
 refine da ?_
 exact ftt r0
 refine xs (λh3=>?_) λh3=>?_
 refine ar ?_
 refine da ?_
 exact ftt r0
 refine xs (λh4=>?_) λh4=>?_
 refine ar ?_
 refine da ?_
 exact ftt r0
 refine ar ?_
 refine xs (λh5=>?_) λh5=>?_
 refine da ?_
 exact ftt r0
 refine db ?_
 exact ftt r0
noncomputable def Zy(p0:Rts):Option (List Int) :=
 (Qi (λ(s5:List Int×Int) =>
 if s5.2 < (p0.used.length:Int) then
 ((at_ p0.used s5.2).bind λv10 =>
 if v10=true then
 (if ((s5.1.length:Int)+[w64 (s5.2+1)].length) * 8<=140737488355328/\(s5.1.length:Int)+[w64 (s5.2+1)].length<=9223372036854775807 then
 some (.go ((s5.1++[w64 (s5.2+1)],w64 (s5.2+1))))
 else none)
 else
 some (.go ((s5.1,w64 (s5.2+1)))))
 else
 some (.out (s5.1))) (([]:List Int),0)).bind λ(b1:List Int) =>
 some (b1)
theorem X4{p0 r}:Sm (Zy p0) r->DCall Tryz.prog 53 [.agg [.sl (p0.used.map bC),.sl (p0.refs.map uC)]] [] (.own 0 0 r.length) [(0,aO 1 (r.map iC))]:=by
 unfold Zy
 refine mk0 Tryz.func53 ?_
 refine ar ?_
 refine ar ?_
 refine cT [] [(3,λb1=>.own 1 0 b1.length)] [] [] [(1,λb1=>aO 1 (b1.map iC))] 2 (λz2=>?_) λb1=>?_
 refine ar ?_
 refine xx (QU 3 1 Od rfl) ?_
 refine lP [7,8] [(3,λs5=>.own 1 0 s5.1.length),(9,λs5=>DI s5.2)] [] [] [(1,λs5=>aO 1 (s5.1.map iC))] 2 λs5 y6 hq6=>?_
 refine ar ?_
 refine sq λK k=>?_
 refine xs (λh8=>?_) λh8=>?_
 refine ca ?_
 refine sq λK k=>?_
 refine au ?_
 refine xa λv10 hv10=>?_
 refine ar ?_
 refine ar ?_
 refine xs (λh11=>?_) λh11=>?_
 refine ca ?_
 refine xc λh12=>?_
 refine ar ?_
 refine goA (Qk (c:=iC) ([w64 (s5.2+1)]:List Int) i22.ok i3.ok) ?_
 refine goA (QT (c:=iC) s5.1 [w64 (s5.2+1)] h12 i22.ok i3.ok rfl rfl (.own rfl rfl Os (Qf (c:=iC) (λ_=>rfl) _)) rfl) ?_
 refine au ?_
 refine ar ?_
 exact wJ [(1,3)]
 refine db ?_
 exact wJ []
 refine cb ?_
 refine xo hq6 ?_
 exact wJ []
 refine ar ?_
 exact ft [(0,1)]
noncomputable def X9(p0:List Int):Option (List Int) :=
 if (p0.length:Int) * 8<=140737488355328/\(p0.length:Int)<=9223372036854775807 then
 some (p0)
 else none
theorem Qdz{p0 r}:Sm (X9 p0) r->DCall Tryz.prog 100 [.sl (p0.map uC)] [] (.own 0 0 r.length) [(0,aO 1 (r.map uC))]:=by
 unfold X9
 refine mk0 Tryz.func100 ?_
 refine ar ?_
 refine xc λh1=>?_
 refine ar ?_
 refine goA (Qbi (c:=uC) p0 h1 i26.ok i62.ok rfl (.sl rfl (Qf (c:=uC) (λ_=>rfl) _))) ?_
 refine au ?_
 exact ft r1
noncomputable def QS(p0:List (List Inc)):Option (List (List Inc)) :=
 (Qi (λ(s5:List (List Inc)×Int) =>
 if s5.2 < (p0.length:Int) then
 ((at_ p0 s5.2).bind λv10 =>
 if (v10.length:Int) * 40<=140737488355328/\(v10.length:Int)<=9223372036854775807 then
 if ((s5.1.length:Int)+1) * 24<=140737488355328/\(s5.1.length:Int)+1<=9223372036854775807 then
 some (.go ((s5.1++[v10],w64 (s5.2+1))))
 else none
 else none)
 else
 some (.out (s5.1))) (([]:List (List Inc)),0)).bind λ(b1:List (List Inc)) =>
 some (b1)
theorem Zx{p0 r}:Sm (QS p0) r->DCall Tryz.prog 127 [.sl (p0.map (lC Inc.c))] [] (.own 0 0 r.length) [(0,⟨1,false,false,r.map (lD 5 Inc.c)⟩)]:=by
 unfold QS
 refine mk0 Tryz.func127 ?_
 refine ar ?_
 refine ar ?_
 refine cT [] [(3,λb1=>.own 0 0 b1.length)] [] [] [(0,λb1=>⟨1,false,false,b1.map (lD 5 Inc.c)⟩)] 1 (λz2=>?_) λb1=>?_
 refine ar ?_
 refine xx (QU 3 1 Od rfl) ?_
 refine xx (Qt (Qcp (cd:=(lD 5 Inc.c)) (s:=0) rfl)) ?_
 refine lP [6,7] [(3,λs5=>.own 0 0 s5.1.length),(8,λs5=>DI s5.2)] [] [] [(0,λs5=>⟨1,false,false,s5.1.map (lD 5 Inc.c)⟩)] 1 λs5 y6 hq6=>?_
 refine ar ?_
 refine sq λK k=>?_
 refine xs (λh8=>?_) λh8=>?_
 refine ca ?_
 refine sq λK k=>?_
 refine au ?_
 refine xa λv10 hv10=>?_
 refine ar ?_
 refine xc λh11=>?_
 refine xc λh12=>?_
 refine ar ?_
 refine goA (Qbi (c:=Inc.c) v10 h11 i46.ok i49.ok rfl (.sl rfl (Qf (c:=Inc.c) (λ_=>rfl) _))) ?_
 refine goA (m_litD [[.own 1 0 v10.length]] i30.ok i46.ok) ?_
 refine goA (m_apD (cd:=(lD 5 Inc.c)) s5.1 v10 [.own 1 0 v10.length] h12 i30.ok i46.ok rfl rfl (by first | rfl | omega | (simp;done) | (simp;omega)) rfl rfl rfl) ?_
 refine au ?_
 refine ar ?_
 intro H;have e:=se H;subst e;exact ⟨_,rfl,ZJ.trans (attL (s:=3) (t:=1) (j:=0) (c:=Inc.c) [.dp 5 (v10.map Inc.c)] rfl rfl rfl rfl rfl rfl) (ZJ.trans (tellL (s:=3) v10 rfl rfl) (wkJ [(0,3)]))⟩
 refine cb ?_
 refine xo hq6 ?_
 exact wJ []
 refine ar ?_
 exact ft r1
noncomputable def ZA(p0:List Qe):Option (List Qe) :=
 (Qi (λ(s5:List Qe×Int) =>
 if s5.2 < (p0.length:Int) then
 ((at_ p0 s5.2).bind λv10 =>
 if (v10.slots.length:Int) * 8<=140737488355328/\(v10.slots.length:Int)<=9223372036854775807 then
 if ((s5.1.length:Int)+[v10].length) * 40<=140737488355328/\(s5.1.length:Int)+[v10].length<=9223372036854775807 then
 some (.go ((s5.1++[v10],w64 (s5.2+1))))
 else none
 else none)
 else
 some (.out (s5.1))) (([]:List Qe),0)).bind λ(b1:List Qe) =>
 some (b1)
theorem X6{p0 r}:Sm (ZA p0) r->DCall Tryz.prog 128 [.sl (p0.map Qe.c)] [] (.own 0 0 r.length) [(0,aO 3 (r.map Qe.c))]:=by
 unfold ZA
 refine mk0 Tryz.func128 ?_
 refine ar ?_
 refine ar ?_
 refine cT [] [(3,λb1=>.own 0 0 b1.length)] [] [] [(0,λb1=>aO 3 (b1.map Qe.c))] 1 (λz2=>?_) λb1=>?_
 refine ar ?_
 refine xx (QU 3 3 Od rfl) ?_
 refine lP [6,7] [(3,λs5=>.own 0 0 s5.1.length),(8,λs5=>DI s5.2)] [] [] [(0,λs5=>aO 3 (s5.1.map Qe.c))] 1 λs5 y6 hq6=>?_
 refine ar ?_
 refine sq λK k=>?_
 refine xs (λh8=>?_) λh8=>?_
 refine ca ?_
 refine sq λK k=>?_
 refine au ?_
 refine xa λv10 hv10=>?_
 refine ar ?_
 refine xc λh11=>?_
 refine xc λh12=>?_
 refine ar ?_
 refine goA (Qbi (c:=iC) v10.slots h11 i22.ok i3.ok rfl (.sl rfl (Qf (c:=iC) (λ_=>rfl) _))) ?_
 refine au ?_
 refine goA (m_litP (c:=Qe.c) ([v10]:List Qe) i31.ok i84.ok rfl rfl rfl rfl Od Od Od rfl (pu_lit (pu_lit (pu_own (c:=iC) (ys:=v10.slots) rfl pu_nil))) rfl rfl) ?_
 refine goA (QT (c:=Qe.c) s5.1 [v10] h12 i31.ok i84.ok rfl rfl (.own rfl rfl Os (Qf (c:=Qe.c) (λ_=>rfl) _)) rfl) ?_
 refine au ?_
 refine ar ?_
 exact wJ [(0,4)]
 refine cb ?_
 refine xo hq6 ?_
 exact wJ []
 refine ar ?_
 exact ft r1
noncomputable def Zz(p0:Rts):Option Rts :=
 if (p0.used.length:Int) * 1<=140737488355328/\(p0.used.length:Int)<=9223372036854775807 then
 if (p0.refs.length:Int) * 8<=140737488355328/\(p0.refs.length:Int)<=9223372036854775807 then
 some (p0)
 else none
 else none
theorem X5{p0 r}:Sm (Zz p0) r->DCall Tryz.prog 129 [.agg [.sl (p0.used.map bC),.sl (p0.refs.map uC)]] [] (.agg [.own 0 0 r.used.length,.own 1 0 r.refs.length]) [(0,aO 1 (r.used.map bC)),(1,aO 1 (r.refs.map uC))]:=by
 unfold Zz
 refine mk0 Tryz.func129 ?_
 refine ar ?_
 refine xc λh1=>?_
 refine xc λh2=>?_
 refine ar ?_
 refine goA (Qbi (c:=bC) p0.used h1 i32.ok i4.ok rfl (.sl rfl (Qf (c:=bC) (λ_=>rfl) _))) ?_
 refine au ?_
 refine goA (Qbi (c:=uC) p0.refs h2 i26.ok i62.ok rfl (.sl rfl (Qf (c:=uC) (λ_=>rfl) _))) ?_
 refine au ?_
 exact fw [(0,2),(1,3)]
noncomputable def QI(p0:List (List Inc))(p1:Int):Option (Inc×Bool) :=
 if p1 < 0 then
 (some ((Inc.mk 0 0 0 0 0,false)))
 else
 if (p0.length:Int)<=p1 then
 (some ((Inc.mk 0 0 0 0 0,false)))
 else
 (at_ p0 p1).bind λv4 =>
 if (v4.length:Int)=0 then
 (some ((Inc.mk 0 0 0 0 0,false)))
 else
 (at_ v4 (w64 ((v4.length:Int) - 1))).bind λv6 =>
 some ((v6,true))
theorem ZE{p0 p1 r}:Sm (QI p0 p1) r->DCall Tryz.prog 74 [.sl (p0.map (lC Inc.c)),DI p1] [] (.tup [.agg [DI r.1.seq,DI r.1.belt,DI r.1.first,DI r.1.last,DI r.1.words],DB r.2]) []:=by
 unfold QI
 refine mk0 Tryz.func74 ?_
 refine ar ?_
 refine sq λK k=>?_
 refine xs (λh2=>?_) λh2=>?_
 refine ar ?_
 refine da ?_
 exact fwt r0
 refine xs (λh3=>?_) λh3=>?_
 refine ar ?_
 refine da ?_
 exact fwt r0
 refine xa λv4 hv4=>?_
 refine ar ?_
 refine xs (λh5=>?_) λh5=>?_
 refine da ?_
 exact fwt r0
 refine cb ?_
 refine xa λv6 hv6=>?_
 refine ar ?_
 exact fwt r0
noncomputable def XS(p0:Int)(p1:Int):Option Int :=
 if p0 < 0 then
 (some (0))
 else
 if 1099511627776 < p0 then
 (some (0))
 else
 if p1 < 0 then
 (some (0))
 else
 if 20 < p1 then
 (some (0))
 else
 if 0<=wu p1 then
 some (Qb2 .i64 (w64 ((w64 (p0+(Qcq .i64 1 (wu p1)))) - 1)) (wu p1))
 else none
theorem QbD{p0 p1 r}:Sm (XS p0 p1) r->DCall Tryz.prog 122 [DI p0,DI p1] [] (DI r) []:=by
 unfold XS
 refine mk0 Tryz.func122 ?_
 refine ar ?_
 refine sq λK k=>?_
 refine xs (λh2=>?_) λh2=>?_
 refine ar ?_
 refine da ?_
 exact ft r0
 refine xs (λh3=>?_) λh3=>?_
 refine ar ?_
 refine da ?_
 exact ft r0
 refine xs (λh4=>?_) λh4=>?_
 refine ar ?_
 refine da ?_
 exact ft r0
 refine ar ?_
 refine xs (λh5=>?_) λh5=>?_
 refine da ?_
 exact ft r0
 refine cb ?_
 refine xc λh6=>?_
 refine ar ?_
 exact ft r0
noncomputable def Zl(p0:Sp):Option (List Int) :=
 (Qi (λ(s5:List Int×Int) =>
 if s5.2 < (p0.fs.length:Int) then
 ((at_ p0.fs s5.2).bind λv10 =>
 if v10.ow=(-1) then
 (if ((s5.1.length:Int)+[s5.2].length) * 8<=140737488355328/\(s5.1.length:Int)+[s5.2].length<=9223372036854775807 then
 some (.go ((s5.1++[s5.2],w64 (s5.2+1))))
 else none)
 else
 some (.go ((s5.1,w64 (s5.2+1)))))
 else
 some (.out (s5.1))) (([]:List Int),0)).bind λ(b1:List Int) =>
 some (b1)
theorem Xe{p0 r}:Sm (Zl p0) r->DCall Tryz.prog 75 [.agg [DI p0.sh,.sl (p0.ws.map uC),.sl (p0.fs.map frC)]] [] (.own 0 0 r.length) [(0,aO 1 (r.map iC))]:=by
 unfold Zl
 refine mk0 Tryz.func75 ?_
 refine ar ?_
 refine ar ?_
 refine cT [] [(3,λb1=>.own 1 0 b1.length)] [] [] [(1,λb1=>aO 1 (b1.map iC))] 2 (λz2=>?_) λb1=>?_
 refine ar ?_
 refine xx (QU 3 1 Od rfl) ?_
 refine lP [7,8] [(3,λs5=>.own 1 0 s5.1.length),(9,λs5=>DI s5.2)] [] [] [(1,λs5=>aO 1 (s5.1.map iC))] 2 λs5 y6 hq6=>?_
 refine ar ?_
 refine sq λK k=>?_
 refine xs (λh8=>?_) λh8=>?_
 refine ca ?_
 refine sq λK k=>?_
 refine au ?_
 refine xa λv10 hv10=>?_
 refine ar ?_
 refine ar ?_
 refine xs (λh11=>?_) λh11=>?_
 refine ca ?_
 refine xc λh12=>?_
 refine ar ?_
 refine goA (Qk (c:=iC) ([s5.2]:List Int) i22.ok i3.ok) ?_
 refine goA (QT (c:=iC) s5.1 [s5.2] h12 i22.ok i3.ok rfl rfl (.own rfl rfl Os (Qf (c:=iC) (λ_=>rfl) _)) rfl) ?_
 refine au ?_
 refine ar ?_
 exact wJ [(1,4)]
 refine db ?_
 exact wJ []
 refine cb ?_
 refine xo hq6 ?_
 exact wJ []
 refine ar ?_
 exact ft [(0,1)]
noncomputable def XO(p0:List (List Inc))(p1:Int):Option (Inc×Bool) :=
 bndR (Qi (λ(s4:Int) =>
 if s4 < (p0.length:Int) then
 (bndR ((at_ p0 s4).bind λv10 =>
 Qi (λ(s12:Int) =>
 if s12 < (v10.length:Int) then
 ((at_ v10 s12).bind λv17 =>
 if v17.seq=p1 then
 (some (.out (.inr (.out (.inr ((v17,true)))))))
 else
 some (.go (w64 (s12+1))))
 else
 some (.out (.inl (())))) 0) λ(b8:Unit) =>
 some (.go (w64 (s4+1))))
 else
 some (.out (.inl (())))) 0) λ(b1:Unit) =>
 some ((Inc.mk 0 0 0 0 0,false))
theorem QbA{p0 p1 r}:Sm (XO p0 p1) r->DCall Tryz.prog 123 [.sl (p0.map (lC Inc.c)),DI p1] [] (.tup [.agg [DI r.1.seq,DI r.1.belt,DI r.1.first,DI r.1.last,DI r.1.words],DB r.2]) []:=by
 unfold XO
 refine mk0 Tryz.func123 ?_
 refine ar ?_
 refine cU [] [(4,λb1=>.ptr 0 0 0)] [0] [] [] 1 (λz2 hr2=>?_) λb1=>?_
 refine ar ?_
 refine lP [1,10,11] [(4,λs4=>.ptr 0 0 0),(12,λs4=>DI s4)] [0] [] [] 1 λs4 y5 hq5=>?_
 refine ar ?_
 refine sq λK k=>?_
 refine xs (λh7=>?_) λh7=>?_
 refine ca ?_
 refine cU [1,4,10,11,12] [] [0] [] [] 1 (λz9 hr9=>?_) λb8=>?_
 refine au ?_
 refine xa λv10 hv10=>?_
 refine ar ?_
 refine ar ?_
 refine lP [1,4,10,11,12,16,17] [(18,λs12=>DI s12)] [0] [] [] 1 λs12 y13 hq13=>?_
 refine ar ?_
 refine sq λK k=>?_
 refine xs (λh15=>?_) λh15=>?_
 refine ca ?_
 refine sq λK k=>?_
 refine au ?_
 refine xa λv17 hv17=>?_
 refine ar ?_
 refine ar ?_
 refine xs (λh18=>?_) λh18=>?_
 refine da ?_
 refine xo hq13 ?_
 refine xr hr9 ?_
 refine xo hq5 ?_
 refine xr hr2 ?_
 exact fwt r0
 refine db ?_
 exact wJ []
 refine cb ?_
 refine xo hq13 ?_
 exact wJ []
 refine ar ?_
 exact wJ []
 refine cb ?_
 refine xo hq5 ?_
 exact wJ []
 refine ar ?_
 exact fwt r0
noncomputable def XB(p0:List (List Inc)):Option (List Inc) :=
 (Qi (λ(s5:List Inc×Int) =>
 if s5.2 < (p0.length:Int) then
 ((at_ p0 s5.2).bind λv10 =>
 if ((s5.1.length:Int)+v10.length) * 40<=140737488355328/\(s5.1.length:Int)+v10.length<=9223372036854775807 then
 some (.go ((s5.1++v10,w64 (s5.2+1))))
 else none)
 else
 some (.out (s5.1))) (([]:List Inc),0)).bind λ(b1:List Inc) =>
 some (b1)
theorem QbX{p0 r}:Sm (XB p0) r->DCall Tryz.prog 13 [.sl (p0.map (lC Inc.c))] [] (.own 0 0 r.length) [(0,aO 5 (r.map Inc.c))]:=by
 unfold XB
 refine mk0 Tryz.func13 ?_
 refine ar ?_
 refine ar ?_
 refine cT [] [(3,λb1=>.own 0 0 b1.length)] [] [] [(0,λb1=>aO 5 (b1.map Inc.c))] 1 (λz2=>?_) λb1=>?_
 refine ar ?_
 refine xx (QU 3 5 Od rfl) ?_
 refine lP [6,7] [(3,λs5=>.own 0 0 s5.1.length),(8,λs5=>DI s5.2)] [] [] [(0,λs5=>aO 5 (s5.1.map Inc.c))] 1 λs5 y6 hq6=>?_
 refine ar ?_
 refine sq λK k=>?_
 refine xs (λh8=>?_) λh8=>?_
 refine ca ?_
 refine sq λK k=>?_
 refine au ?_
 refine xa λv10 hv10=>?_
 refine ar ?_
 refine xc λh11=>?_
 refine ar ?_
 refine goA (QT (c:=Inc.c) s5.1 v10 h11 i46.ok i49.ok rfl rfl (.sl rfl (Qf (c:=Inc.c) (λ_=>rfl) _)) rfl) ?_
 refine au ?_
 refine ar ?_
 exact wJ [(0,1)]
 refine cb ?_
 refine xo hq6 ?_
 exact wJ []
 refine ar ?_
 exact ft r1
theorem QeQ{p0:List (List Inc)}{r:List Inc}(H:Sm (XB p0) r):DCall Tryz.prog 13 [.sl (p0.map (lC Inc.c))] [] (.sl (r.map Inc.c)) [] :=
  (QbX H).conv [] (by repeat' (first | exact CvL.nil | apply CvL.cons | exact .lit | exact .frzM rfl rfl | exact .own rfl | exact .sl | exact .ptr rfl | exact .nil | apply Cv.agg | apply Cv.tup)) (by repeat' (first | exact CvS.nil | apply CvS.cons rfl rfl | exact .arr rfl | apply CvO.box | exact CvL.nil | apply CvL.cons | exact .lit | exact .frzM rfl rfl | exact .own rfl | exact .sl | exact .ptr rfl | exact .nil | apply Cv.agg | apply Cv.tup)) rfl
noncomputable def Zo(p0:Sp)(p1:List Inc)(p2:Int):Option Bool :=
 if p2=0 then
 (some (false))
 else
 if (wu (p0.ws.length:Int)) < p2 then
 (some (false))
 else
 if 0<=wu p0.sh then
 (at_ p0.fs (Qb2 .i64 (w64 (wu (p2 - 1))) (wu p0.sh))).bind λv5 =>
 bndR (Qi (λ(s9:Int) =>
 if s9 < (p1.length:Int) then
 ((at_ p1 s9).bind λv14 =>
 if v5.ow=v14.seq then
 (some (.out (.inr (true))))
 else
 some (.go (w64 (s9+1))))
 else
 some (.out (.inl (())))) 0) λ(b6:Unit) =>
 some (false)
 else none
theorem Jn{p0 p1 p2 r}:Sm (Zo p0 p1 p2) r->DCall Tryz.prog 27 [.agg [DI p0.sh,.sl (p0.ws.map uC),.sl (p0.fs.map frC)],.sl (p1.map Inc.c),DU p2] [] (DB r) []:=by
 unfold Zo
 refine mk0 Tryz.func27 ?_
 refine ar ?_
 refine sq λK k=>?_
 refine xs (λh2=>?_) λh2=>?_
 refine ar ?_
 refine da ?_
 exact ft r0
 refine ar ?_
 refine xs (λh3=>?_) λh3=>?_
 refine da ?_
 exact ft r0
 refine cb ?_
 refine xc λh4=>?_
 refine xa λv5 hv5=>?_
 refine ar ?_
 refine cU [] [] [] [] [] 0 (λz7 hr7=>?_) λb6=>?_
 refine ar ?_
 refine lP [31,32] [(7,λs9=>.ptr 1 0 0),(33,λs9=>DI s9)] [1] [] [] 2 λs9 y10 hq10=>?_
 refine ar ?_
 refine sq λK k=>?_
 refine xs (λh12=>?_) λh12=>?_
 refine ca ?_
 refine sq λK k=>?_
 refine au ?_
 refine xa λv14 hv14=>?_
 refine ar ?_
 refine ar ?_
 refine xs (λh15=>?_) λh15=>?_
 refine da ?_
 refine xo hq10 ?_
 refine xr hr7 ?_
 exact ft r0
 refine db ?_
 exact wJ []
 refine cb ?_
 refine xo hq10 ?_
 exact wJ []
 refine ar ?_
 exact ft r0
noncomputable def Zp(p0:Sp)(p1:List Inc):Option (List Int) :=
 (Qi (λ(s5:List Int×Int) =>
 if s5.2 < (p0.fs.length:Int) then
 (((at_ p0.fs s5.2).bind λv11 =>
 Qi (λ(s13:Int) =>
 if s13 < (p1.length:Int) then
 ((at_ p1 s13).bind λv18 =>
 if v11.ow=v18.seq then
 (if ((s5.1.length:Int)+[s5.2].length) * 8<=140737488355328/\(s5.1.length:Int)+[s5.2].length<=9223372036854775807 then
 some (.out (s5.1++[s5.2]))
 else none)
 else
 some (.go (w64 (s13+1))))
 else
 some (.out (s5.1))) 0).bind λ(b9:List Int) =>
 some (.go ((b9,w64 (s5.2+1)))))
 else
 some (.out (s5.1))) (([]:List Int),0)).bind λ(b1:List Int) =>
 some (b1)
theorem Qaw{p0 p1 r}:Sm (Zp p0 p1) r->DCall Tryz.prog 25 [.agg [DI p0.sh,.sl (p0.ws.map uC),.sl (p0.fs.map frC)],.sl (p1.map Inc.c)] [] (.own 0 0 r.length) [(0,aO 1 (r.map iC))]:=by
 unfold Zp
 refine mk0 Tryz.func25 ?_
 refine ar ?_
 refine ar ?_
 refine cT [] [(5,λb1=>.own 1 0 b1.length)] [] [] [(1,λb1=>aO 1 (b1.map iC))] 2 (λz2=>?_) λb1=>?_
 refine ar ?_
 refine xx (QU 5 1 Od rfl) ?_
 refine lP [1,11,12] [(5,λs5=>.own 1 0 s5.1.length),(13,λs5=>DI s5.2)] [] [] [(1,λs5=>aO 1 (s5.1.map iC))] 2 λs5 y6 hq6=>?_
 refine ar ?_
 refine sq λK k=>?_
 refine xs (λh8=>?_) λh8=>?_
 refine ca ?_
 refine cT [1,11,12,13] [(5,λb9=>.own 2 0 b9.length)] [] [] [(2,λb9=>aO 1 (b9.map iC))] 3 (λz10=>?_) λb9=>?_
 refine au ?_
 refine xa λv11 hv11=>?_
 refine ar ?_
 refine ar ?_
 refine lP [1,5,6,11,12,13,18,19] [(7,λs13=>.ptr 2 0 0),(20,λs13=>DI s13)] [1,2] [] [] 3 λs13 y14 hq14=>?_
 refine ar ?_
 refine sq λK k=>?_
 refine xs (λh16=>?_) λh16=>?_
 refine ca ?_
 refine sq λK k=>?_
 refine au ?_
 refine xa λv18 hv18=>?_
 refine ar ?_
 refine ar ?_
 refine xs (λh19=>?_) λh19=>?_
 refine ca ?_
 refine xc λh20=>?_
 refine ar ?_
 refine goA (Qk (c:=iC) ([s5.2]:List Int) i22.ok i3.ok) ?_
 refine goA (QT (c:=iC) s5.1 [s5.2] h20 i22.ok i3.ok rfl rfl (.own rfl rfl Os (Qf (c:=iC) (λ_=>rfl) _)) rfl) ?_
 refine au ?_
 refine xo hq14 ?_
 exact wJ [(2,5)]
 refine db ?_
 exact wJ []
 refine cb ?_
 refine xo hq14 ?_
 exact wJ [(2,1)]
 refine ar ?_
 exact wJ [(1,2)]
 refine cb ?_
 refine xo hq6 ?_
 exact wJ []
 refine ar ?_
 exact ft [(0,1)]
noncomputable def XK(p0:List Int)(p1:Int):Option Bool :=
 bndR (Qi (λ(s4:Int) =>
 if s4 < (p0.length:Int) then
 ((at_ p0 s4).bind λv9 =>
 if v9=p1 then
 (some (.out (.inr (true))))
 else
 some (.go (w64 (s4+1))))
 else
 some (.out (.inl (())))) 0) λ(b1:Unit) =>
 some (false)
theorem Xm{p0 p1 r}:Sm (XK p0 p1) r->DCall Tryz.prog 97 [.sl (p0.map iC),DI p1] [] (DB r) []:=by
 unfold XK
 refine mk0 Tryz.func97 ?_
 refine ar ?_
 refine cU [] [] [] [] [] 0 (λz2 hr2=>?_) λb1=>?_
 refine ar ?_
 refine lP [1,7,8] [(9,λs4=>DI s4)] [] [] [] 0 λs4 y5 hq5=>?_
 refine ar ?_
 refine sq λK k=>?_
 refine xs (λh7=>?_) λh7=>?_
 refine ca ?_
 refine sq λK k=>?_
 refine au ?_
 refine xa λv9 hv9=>?_
 refine ar ?_
 refine ar ?_
 refine xs (λh10=>?_) λh10=>?_
 refine da ?_
 refine xo hq5 ?_
 refine xr hr2 ?_
 exact ft r0
 refine db ?_
 exact wJ []
 refine cb ?_
 refine xo hq5 ?_
 exact wJ []
 refine ar ?_
 exact ft r0
noncomputable def XJ(p0:List Int)(p1:Int):Option (List Int) :=
 (Qi (λ(s4:Int) =>
 if s4 < (p0.length:Int) then
 ((at_ p0 s4).bind λv8 =>
 if v8 < p1 then
 (some (.go (w64 (s4+1))))
 else
 some (.out (s4)))
 else
 some (.out (s4))) 0).bind λ(b1:Int) =>
 if b1 < (p0.length:Int) then
 ((at_ p0 b1).bind λv12 =>
 if v12=p1 then
 (some (p0))
 else
 if (0:Int)<=0/\0<=b1/\b1<=p0.length then
 if (((p0.take (Int.toNat b1)).drop (Int.toNat 0)).length:Int) * 8<=140737488355328/\(((p0.take (Int.toNat b1)).drop (Int.toNat 0)).length:Int)<=9223372036854775807 then
 if ((((p0.take (Int.toNat b1)).drop (Int.toNat 0)).length:Int)+[p1].length) * 8<=140737488355328/\(((p0.take (Int.toNat b1)).drop (Int.toNat 0)).length:Int)+[p1].length<=9223372036854775807 then
 if 0<=b1/\b1<=(p0.length:Int)/\(p0.length:Int)<=p0.length then
 if (((((p0.take (Int.toNat b1)).drop (Int.toNat 0))++[p1]).length:Int)+((p0.take (Int.toNat (p0.length:Int))).drop (Int.toNat b1)).length) * 8<=140737488355328/\((((p0.take (Int.toNat b1)).drop (Int.toNat 0))++[p1]).length:Int)+((p0.take (Int.toNat (p0.length:Int))).drop (Int.toNat b1)).length<=9223372036854775807 then
 some ((((p0.take (Int.toNat b1)).drop (Int.toNat 0))++[p1])++((p0.take (Int.toNat (p0.length:Int))).drop (Int.toNat b1)))
 else none
 else none
 else none
 else none
 else none)
 else
 if (0:Int)<=0/\0<=b1/\b1<=p0.length then
 if (((p0.take (Int.toNat b1)).drop (Int.toNat 0)).length:Int) * 8<=140737488355328/\(((p0.take (Int.toNat b1)).drop (Int.toNat 0)).length:Int)<=9223372036854775807 then
 if ((((p0.take (Int.toNat b1)).drop (Int.toNat 0)).length:Int)+[p1].length) * 8<=140737488355328/\(((p0.take (Int.toNat b1)).drop (Int.toNat 0)).length:Int)+[p1].length<=9223372036854775807 then
 if 0<=b1/\b1<=(p0.length:Int)/\(p0.length:Int)<=p0.length then
 if (((((p0.take (Int.toNat b1)).drop (Int.toNat 0))++[p1]).length:Int)+((p0.take (Int.toNat (p0.length:Int))).drop (Int.toNat b1)).length) * 8<=140737488355328/\((((p0.take (Int.toNat b1)).drop (Int.toNat 0))++[p1]).length:Int)+((p0.take (Int.toNat (p0.length:Int))).drop (Int.toNat b1)).length<=9223372036854775807 then
 some ((((p0.take (Int.toNat b1)).drop (Int.toNat 0))++[p1])++((p0.take (Int.toNat (p0.length:Int))).drop (Int.toNat b1)))
 else none
 else none
 else none
 else none
 else none
theorem Qbx{p0 p1 r}:Sm (XJ p0 p1) r->DCall Tryz.prog 98 [.sl (p0.map iC),DI p1] [] (.sl (r.map iC)) []:=by
 unfold XJ
 refine mk0 Tryz.func98 ?_
 refine ar ?_
 refine ar ?_
 refine cT [0,1] [(5,λb1=>DI b1)] [] [] [] 0 (λz2=>?_) λb1=>?_
 refine au ?_
 refine lP [0,1] [(5,λs4=>DI s4)] [] [] [] 0 λs4 y5 hq5=>?_
 refine sq λK k=>?_
 refine xs (λh7=>?_) λh7=>?_
 refine xa λv8 hv8=>?_
 refine ar ?_
 refine xs (λh9=>?_) λh9=>?_
 refine da ?_
 exact wJ []
 refine cb ?_
 refine xo hq5 ?_
 exact wJ []
 refine ar ?_
 refine cb ?_
 refine xo hq5 ?_
 exact wJ []
 refine sq λK k=>?_
 refine xs (λh11=>?_) λh11=>?_
 refine xa λv12 hv12=>?_
 refine ar ?_
 refine xs (λh13=>?_) λh13=>?_
 refine da ?_
 exact ft r0
 refine cb ?_
 refine xc λh14=>?_
 refine xc λh15=>?_
 refine ar ?_
 refine goA (m_slS (a:=0) (b:=b1) h14 i22.ok i3.ok (.inl ⟨rfl,rfl⟩) (.inr ⟨_,_,rfl,rfl⟩)) ?_
 refine goA (Qbi (c:=iC) ((p0.take (Int.toNat b1)).drop (Int.toNat 0)) h15 i22.ok i3.ok rfl (.sl rfl (Qf (c:=iC) (λ_=>rfl) _))) ?_
 refine au ?_
 refine xc λh16=>?_
 refine xc λh17=>?_
 refine xc λh18=>?_
 refine ar ?_
 refine goA (Qk (c:=iC) ([p1]:List Int) i22.ok i3.ok) ?_
 refine goA (QT (c:=iC) ((p0.take (Int.toNat b1)).drop (Int.toNat 0)) [p1] h16 i22.ok i3.ok rfl rfl (.own rfl rfl Os (Qf (c:=iC) (λ_=>rfl) _)) rfl) ?_
 refine au ?_
 refine goA (m_slS (a:=b1) (b:=(p0.length:Int)) h17 i22.ok i3.ok (.inr ⟨_,_,rfl,rfl⟩) (.inl ⟨rfl,rfl⟩)) ?_
 refine goA (QT (c:=iC) (((p0.take (Int.toNat b1)).drop (Int.toNat 0))++[p1]) ((p0.take (Int.toNat (p0.length:Int))).drop (Int.toNat b1)) h18 i22.ok i3.ok rfl rfl (.sl rfl (Qf (c:=iC) (λ_=>rfl) _)) rfl) ?_
 refine au ?_
 exact ft r0
 refine ar ?_
 refine cb ?_
 refine xc λh19=>?_
 refine xc λh20=>?_
 refine ar ?_
 refine goA (m_slS (a:=0) (b:=b1) h19 i22.ok i3.ok (.inl ⟨rfl,rfl⟩) (.inr ⟨_,_,rfl,rfl⟩)) ?_
 refine goA (Qbi (c:=iC) ((p0.take (Int.toNat b1)).drop (Int.toNat 0)) h20 i22.ok i3.ok rfl (.sl rfl (Qf (c:=iC) (λ_=>rfl) _))) ?_
 refine au ?_
 refine xc λh21=>?_
 refine xc λh22=>?_
 refine xc λh23=>?_
 refine ar ?_
 refine goA (Qk (c:=iC) ([p1]:List Int) i22.ok i3.ok) ?_
 refine goA (QT (c:=iC) ((p0.take (Int.toNat b1)).drop (Int.toNat 0)) [p1] h21 i22.ok i3.ok rfl rfl (.own rfl rfl Os (Qf (c:=iC) (λ_=>rfl) _)) rfl) ?_
 refine au ?_
 refine goA (m_slS (a:=b1) (b:=(p0.length:Int)) h22 i22.ok i3.ok (.inr ⟨_,_,rfl,rfl⟩) (.inl ⟨rfl,rfl⟩)) ?_
 refine goA (QT (c:=iC) (((p0.take (Int.toNat b1)).drop (Int.toNat 0))++[p1]) ((p0.take (Int.toNat (p0.length:Int))).drop (Int.toNat b1)) h23 i22.ok i3.ok rfl rfl (.sl rfl (Qf (c:=iC) (λ_=>rfl) _)) rfl) ?_
 refine au ?_
 exact ft r0
noncomputable def ZU(p0:Int):Option (Int×Int×Int×Bool×Int) :=
 if (Int.tmod p0 2)=1 then
 (if 16384<=(wu (Int.tdiv p0 2)) then
 (some ((0,0,0,false,12)))
 else
 some ((0,0,w64 (wu (Int.tdiv p0 2)),true,0)))
 else
 if 48 < (wu (Int.tdiv p0 256)) then
 (some ((0,0,0,false,12)))
 else
 if 15 < (w64 (wu (Int.tdiv (Int.tmod p0 256) 2))) then
 (some ((0,0,0,false,12)))
 else
 if (w64 (wu (Int.tdiv p0 256))) < (w64 (1+(w64 (wu (Int.tdiv (Int.tmod p0 256) 2))))) then
 (some ((0,0,0,false,12)))
 else
 if 32 < (w64 ((w64 ((w64 (wu (Int.tdiv p0 256))) - 1)) - (w64 (wu (Int.tdiv (Int.tmod p0 256) 2))))) then
 (some ((0,0,0,false,12)))
 else
 some ((w64 (wu (Int.tdiv (Int.tmod p0 256) 2)),w64 ((w64 ((w64 (wu (Int.tdiv p0 256))) - 1)) - (w64 (wu (Int.tdiv (Int.tmod p0 256) 2)))),0,false,0))
theorem QaC{p0 r}:Sm (ZU p0) r->DCall Tryz.prog 93 [DU p0] [] (.tup [DI r.1,DI r.2.1,DI r.2.2.1,DB r.2.2.2.1,DI r.2.2.2.2]) []:=by
 unfold ZU
 refine mk0 Tryz.func93 ?_
 refine ar ?_
 refine sq λK k=>?_
 refine ar ?_
 refine xs (λh2=>?_) λh2=>?_
 refine ca ?_
 refine sq λK k=>?_
 refine ar ?_
 refine xs (λh4=>?_) λh4=>?_
 refine da ?_
 exact Qeu r0
 refine db ?_
 exact Qeu r0
 refine db ?_
 refine sq λK k=>?_
 refine xs (λh6=>?_) λh6=>?_
 refine ar ?_
 refine da ?_
 exact Qeu r0
 refine xs (λh7=>?_) λh7=>?_
 refine ar ?_
 refine da ?_
 exact Qeu r0
 refine xs (λh8=>?_) λh8=>?_
 refine ar ?_
 refine da ?_
 exact Qeu r0
 refine ar ?_
 refine xs (λh9=>?_) λh9=>?_
 refine da ?_
 exact Qeu r0
 refine db ?_
 exact Qeu r0
noncomputable def QB(p0:Sp)(p1:Int)(p2:Int):Option (Int×Int) :=
 if p1 < 0 then
 (some ((0,2)))
 else
 if (p0.ws.length:Int)<=p1 then
 (some ((0,2)))
 else
 if p2 < 0 then
 (some ((0,2)))
 else
 if 0<=wu p0.sh then
 (at_ p0.fs (Qb2 .i64 p1 (wu p0.sh))).bind λv7 =>
 if v7.ow=(-1) then
 (some ((0,5)))
 else
 bndR (Qi (λ(s12:Int×Int×Int) =>
 if (w64 ((Qcq .i64 1 (wu p0.sh)) - s12.2.2))<=s12.1 then
 ((at_ p0.fs s12.2.1).bind λv16 =>
 if v16.nx=(-1) then
 (some (.out (.inr ((0,2)))))
 else
 some (.go ((w64 (s12.1 - (w64 ((Qcq .i64 1 (wu p0.sh)) - s12.2.2))),v16.nx,0))))
 else
 some (.out (.inl ((s12.1,s12.2.1,s12.2.2))))) (p2,Qb2 .i64 p1 (wu p0.sh),bits .and .i64 p1 (w64 ((Qcq .i64 1 (wu p0.sh)) - 1)))) λ(b9:Int×Int×Int) =>
 some ((w64 ((w64 ((Qcq .i64 b9.2.1 (wu p0.sh))+b9.2.2))+b9.1),0))
 else none
theorem QG{p0 p1 p2 r}:Sm (QB p0 p1 p2) r->DCall Tryz.prog 49 [.agg [DI p0.sh,.sl (p0.ws.map uC),.sl (p0.fs.map frC)],DI p1,DI p2] [] (.tup [DI r.1,DI r.2]) []:=by
 unfold QB
 refine mk0 Tryz.func49 ?_
 refine ar ?_
 refine sq λK k=>?_
 refine xs (λh2=>?_) λh2=>?_
 refine ar ?_
 refine da ?_
 exact ftt r0
 refine xs (λh3=>?_) λh3=>?_
 refine ar ?_
 refine da ?_
 exact ftt r0
 refine ar ?_
 refine xs (λh4=>?_) λh4=>?_
 refine da ?_
 exact ftt r0
 refine cb ?_
 refine xc λh5=>?_
 refine ar ?_
 refine sq λK k=>?_
 refine xa λv7 hv7=>?_
 refine ar ?_
 refine xs (λh8=>?_) λh8=>?_
 refine da ?_
 exact ftt r0
 refine cb ?_
 refine cU [] [(2,λb9=>DI b9.1),(3,λb9=>.ptr 0 0 0),(8,λb9=>DI b9.2.1),(9,λb9=>DI b9.2.2)] [0] [] [] 1 (λz10 hr10=>?_) λb9=>?_
 refine au ?_
 refine lP [] [(2,λs12=>DI s12.1),(3,λs12=>.ptr 0 0 0),(8,λs12=>DI s12.2.1),(9,λs12=>DI s12.2.2)] [0] [] [] 1 λs12 y13 hq13=>?_
 refine sq λK k=>?_
 refine ar ?_
 refine xs (λh15=>?_) λh15=>?_
 refine da ?_
 refine xa λv16 hv16=>?_
 refine ar ?_
 refine ar ?_
 refine xs (λh17=>?_) λh17=>?_
 refine da ?_
 refine xo hq13 ?_
 refine xr hr10 ?_
 exact ftt r0
 refine cb ?_
 exact wJ []
 refine cb ?_
 refine xo hq13 ?_
 exact wJ []
 refine ar ?_
 exact ftt r0
end Go.Proofs.YthpnlnjdmlbnaaaGreatDoor
