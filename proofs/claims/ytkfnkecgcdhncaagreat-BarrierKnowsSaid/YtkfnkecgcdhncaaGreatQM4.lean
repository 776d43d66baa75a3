/- Parts of the proof. No condition. -/
import Derived.Test.YtkfnkecgcdhncaaGreatQM0
import Derived.Test.YtkfnkecgcdhncaaGreatQM3
noncomputable section
namespace Go.Proofs.YtkfnkecgcdhncaaGreat
open Go.RowKit
set_option linter.unusedSimpArgs false
set_option linter.unusedVariables false
set_option maxRecDepth 20000
set_option maxHeartbeats 40000000
structure Qc where
  l:List Int
  pos:Int
def Qc.c(x:Qc):List DV:=[.sl (x.l.map iC),DI x.pos]
def Qc.d(x:Qc):List DV:=[.dp 1 (x.l.map iC),DI x.pos]
structure Rul where
  share:Nat
  limit:Int
  batch:Int
  target:Int
def Rul.c(x:Rul):List DV:=[.lit (.float .f64 x.share),DI x.limit,DI x.batch,DI x.target]
structure Cfg where
  name:ByteArray
  rules:List Rul
  full:Int
def Cfg.c(x:Cfg):List DV:=[.lit (.string x.name),.sl (x.rules.map Rul.c),DI x.full]
def Cfg.d(x:Cfg):List DV:=[.lit (.string x.name),.dp 4 (x.rules.map Rul.c),DI x.full]
structure Inc where
  seq:Int
  belt:Int
  first:Int
  last:Int
  words:Int
def Inc.c(x:Inc):List DV:=[DI x.seq,DI x.belt,DI x.first,DI x.last,DI x.words]
structure Qe where
  frm:Int
  to:Int
  slots:List Int
def Qe.c(x:Qe):List DV:=[DI x.frm,DI x.to,.sl (x.slots.map iC)]
def Qe.d(x:Qe):List DV:=[DI x.frm,DI x.to,.dp 1 (x.slots.map iC)]
structure Rts where
  used:List Bool
  refs:List Int
def Rts.c(x:Rts):List DV:=[.sl (x.used.map bC),.sl (x.refs.map uC)]
def Rts.d(x:Rts):List DV:=[.dp 1 (x.used.map bC),.dp 1 (x.refs.map uC)]
structure Sts where
  allocated:Int
  objects:Int
  collections:Int
  steps:Int
  rounds:Int
  condemned:Int
  copied:Int
  entries:Int
  work:Int
def Sts.c(x:Sts):List DV:=[DI x.allocated,DI x.objects,DI x.collections,DI x.steps,DI x.rounds,DI x.condemned,DI x.copied,DI x.entries,DI x.work]
structure Hp where
  config:Cfg
  space:Sp
  belts:List (List Inc)
  seq:Int
  sets:List Qe
  roots:Rts
  since:Int
  stats:Sts
  dead:Bool
def Hp.c(x:Hp):List DV:=[.lit (.string x.config.name),.sl (x.config.rules.map Rul.c),DI x.config.full,DI x.space.sh,.sl (x.space.ws.map uC),.sl (x.space.fs.map frC),.sl (x.belts.map (lC Inc.c)),DI x.seq,.sl (x.sets.map Qe.c),.sl (x.roots.used.map bC),.sl (x.roots.refs.map uC),DI x.since,DI x.stats.allocated,DI x.stats.objects,DI x.stats.collections,DI x.stats.steps,DI x.stats.rounds,DI x.stats.condemned,DI x.stats.copied,DI x.stats.entries,DI x.stats.work,DB x.dead]
def Hp.d(x:Hp):List DV:=[.lit (.string x.config.name),.dp 4 (x.config.rules.map Rul.c),DI x.config.full,DI x.space.sh,.dp 1 (x.space.ws.map uC),.dp 3 (x.space.fs.map frC),.dp 1 (x.belts.map (lC Inc.c)),DI x.seq,.dp 3 (x.sets.map Qe.c),.dp 1 (x.roots.used.map bC),.dp 1 (x.roots.refs.map uC),DI x.since,DI x.stats.allocated,DI x.stats.objects,DI x.stats.collections,DI x.stats.steps,DI x.stats.rounds,DI x.stats.condemned,DI x.stats.copied,DI x.stats.entries,DI x.stats.work,DB x.dead]
structure Nod where
  refs:List Int
  data:List Int
def Nod.c(x:Nod):List DV:=[.sl (x.refs.map iC),.sl (x.data.map uC)]
def Nod.d(x:Nod):List DV:=[.dp 1 (x.refs.map iC),.dp 1 (x.data.map uC)]
structure Gra where
  nodes:List Nod
  used:List Bool
  roots:List Int
def Gra.c(x:Gra):List DV:=[.sl (x.nodes.map Nod.c),.sl (x.used.map bC),.sl (x.roots.map iC)]
def Gra.d(x:Gra):List DV:=[.dp 2 (x.nodes.map Nod.c),.dp 1 (x.used.map bC),.dp 1 (x.roots.map iC)]
structure AOp where
  code:Int
  a:Int
  b:Int
  c_:Int
def AOp.c(x:AOp):List DV:=[DI x.code,DI x.a,DI x.b,DI x.c_]
structure Ans where
  err:Int
  value:Int
def Ans.c(x:Ans):List DV:=[DI x.err,DU x.value]
structure Cur where
  belt:Int
  begun:Bool
  last:Int
def Cur.c(x:Cur):List DV:=[DI x.belt,DB x.begun,DI x.last]
structure Rpt where
  condemned:Int
  survived:Int
  entries:Int
  work:Int
def Rpt.c(x:Rpt):List DV:=[DI x.condemned,DI x.survived,DI x.entries,DI x.work]
structure Mov where
  frm:Int
  to:Int
def Mov.c(x:Mov):List DV:=[DI x.frm,DI x.to]
structure Qr where
  s:Sp
  l:List Inc
  to:Inc
  moves:List Mov
  e:Int
def Qr.c(x:Qr):List DV:=[DI x.s.sh,.sl (x.s.ws.map uC),.sl (x.s.fs.map frC),.sl (x.l.map Inc.c),DI x.to.seq,DI x.to.belt,DI x.to.first,DI x.to.last,DI x.to.words,.sl (x.moves.map Mov.c),DI x.e]
def Qr.d(x:Qr):List DV:=[DI x.s.sh,.dp 1 (x.s.ws.map uC),.dp 3 (x.s.fs.map frC),.dp 5 (x.l.map Inc.c),DI x.to.seq,DI x.to.belt,DI x.to.first,DI x.to.last,DI x.to.words,.dp 2 (x.moves.map Mov.c),DI x.e]
structure QO where
  s:Sp
  pos:Int
  refs:Int
  data:Int
def QO.c(x:QO):List DV:=[DI x.s.sh,.sl (x.s.ws.map uC),.sl (x.s.fs.map frC),DI x.pos,DI x.refs,DI x.data]
def QO.d(x:QO):List DV:=[DI x.s.sh,.dp 1 (x.s.ws.map uC),.dp 3 (x.s.fs.map frC),DI x.pos,DI x.refs,DI x.data]
structure Qa7 where
  slot:Int
  frm:Int
  to:Int
def Qa7.c(x:Qa7):List DV:=[DI x.slot,DI x.frm,DI x.to]
def Qc5(a:List Int):Option Qc := some (Qc.mk a 0)
theorem F_make_New_ok{a r}:Sm (Qc5 a) r->DCall Tryz.prog 6 [.sl (a.map iC)] [] (.ptr 0 0 0) [(0,bO 2 [.sl (r.l.map iC),DI r.pos])]:=by unfold Qc5;refine mk0 Tryz.func6 ?_;refine ar ?_;refine ar ?_;exact ft r1
def QaQ(b:Int)(a:Int):Option Int := if ¬ a=0 then if (Int.tmod b a)<0 then(some (w64 ((Int.tmod b a)+a))) else some (Int.tmod b a) else none
theorem Qed{a b r}:Sm (QaQ a b) r->DCall Tryz.prog 7 [DI a,DI b] [] (DI r) []:=by unfold QaQ;refine mk0 Tryz.func7 ?_;refine ar ?_;refine xc λd=>?_;refine ar ?_;refine sq λK k=>?_;refine ar ?_;refine xs (λc=>?_) λc=>?_;refine da ?_;refine ar ?_;exact ft r0;refine db ?_;exact ft r0
def QaN :Option (List ByteArray) := some ([(ByteArray.mk #[115,101,109,105,115,112,97,99,101]),(ByteArray.mk #[97,112,112,101,108]),(ByteArray.mk #[102,105,120,101,100]),(ByteArray.mk #[111,108,100,101,114,45,102,105,114,115,116]),(ByteArray.mk #[120,120]),(ByteArray.mk #[120,120,49,48,48])])
theorem Qe7{r}:Sm (QaN) r->DCall Tryz.prog 42 [] [] (.own 0 0 r.length) [(0,aO 1 (r.map sC))]:=by unfold QaN;refine mk0 Tryz.func42 ?_;refine ar ?_;refine ar ?_;refine goA (Ql (c:=sC) ([(ByteArray.mk #[115,101,109,105,115,112,97,99,101]),(ByteArray.mk #[97,112,112,101,108]),(ByteArray.mk #[102,105,120,101,100]),(ByteArray.mk #[111,108,100,101,114,45,102,105,114,115,116]),(ByteArray.mk #[120,120]),(ByteArray.mk #[120,120,49,48,48])]:List ByteArray) i107.ok i9.ok) ?_;refine au ?_;exact ft r1
def Zr(a:Int):Option (Nat×Int) := if a<0 then(some ((0,1))) else if 100<a then(some ((0,1))) else(FloatKind.f64.format.div (FloatKind.f64.nearest a) 4636737291354636288).bind λb => some ((b,0))
theorem Qbl{b r}:Sm (Zr b) r->DCall Tryz.prog 81 [DI b] [] (.tup [.lit (.float .f64 r.1),DI r.2]) []:=by unfold Zr;refine mk0 Tryz.func81 ?_;refine ar ?_;refine sq λK k=>?_;refine xs (λc=>?_) λc=>?_;refine ar ?_;refine da ?_;exact ftt r0;refine ar ?_;refine xs (λd=>?_) λd=>?_;refine da ?_;exact ftt r0;refine cb ?_;refine xd λe a=>?_;refine ar ?_;refine goA (m_fcv i3.ok i109.ok) ?_;refine goA (m_fqu a.h) ?_;refine au ?_;exact ftt r0
def Zz(c:ByteArray):Option Bool := bndR (Qh (λ(a:Int) => if a<(c.size:Int) then((sAt c a).bind λb => if 97<=b then(if b<=122 then(some (.go (w64 (a+1)))) else if a=0 then(some (.out (.inr (false)))) else if b=45 then(some (.go (w64 (a+1)))) else if b<48 then(some (.out (.inr (false)))) else if 57<b then(some (.out (.inr (false)))) else some (.go (w64 (a+1)))) else if a=0 then(some (.out (.inr (false)))) else if b=45 then(some (.go (w64 (a+1)))) else if b<48 then(some (.out (.inr (false)))) else if 57<b then(some (.out (.inr (false)))) else some (.go (w64 (a+1)))) else some (.out (.inl (())))) 0) λ(d:Unit) => if 1<=(c.size:Int) then(some (decide ((c.size:Int)<=16))) else some (false)
theorem Qe8{q r}:Sm (Zz q) r->DCall Tryz.prog 103 [.lit (.string q)] [] (DB r) []:=by
 unfold Zz;refine mk0 Tryz.func103 ?_;refine ar ?_;refine cU [0] [] [] [] [] 0 (λt b=>?_) λu=>?_;refine ar ?_;refine lP [0] [(3,λp=>DI p)] [] [] [] 0 λp v a=>?_;refine sq λK k=>?_;refine ar ?_;refine goA (m_lenS i9.ok) ?_;refine au ?_;refine xs (λs=>?_) λs=>?_;refine ca ?_;refine sq λK k=>?_;refine au ?_;refine xd λw d=>?_;refine ar ?_;refine goA (m_idS d.h i9.ok) ?_;refine au ?_;refine xs (λe=>?_) λe=>?_;refine ar ?_;refine xs (λf=>?_) λf=>?_;refine ar ?_;refine db ?_;exact wJ [];refine xs (λg=>?_) λg=>?_;refine ar ?_;refine da ?_;refine xo a ?_;refine xr b ?_;exact ft r0;refine xs (λh=>?_) λh=>?_;refine ar ?_;refine db ?_;exact wJ [];refine xs (λi=>?_) λi=>?_;refine ar ?_;refine da ?_;refine xo a ?_;refine xr b ?_;exact ft r0;refine ar ?_;refine xs (λj=>?_) λj=>?_;refine da ?_;refine xo a ?_;refine xr b ?_;exact ft r0;refine db ?_;exact wJ [];refine ar ?_;refine xs (λl=>?_) λl=>?_;refine ar ?_;refine da ?_;refine xo a ?_;refine xr b ?_;exact ft r0;refine xs (λm=>?_) λm=>?_;refine ar ?_;refine db ?_;exact wJ [];refine xs (λn=>?_) λn=>?_;refine ar ?_;refine da ?_;refine xo a ?_;refine xr b ?_;exact ft r0;refine ar ?_;refine xs (λo=>?_) λo=>?_;refine da ?_;refine xo a ?_
 refine xr b ?_;exact ft r0;refine db ?_;exact wJ [];refine cb ?_;refine xo a ?_;exact wJ [];refine xs (λc=>?_) λc=>?_;refine ar ?_;refine goA (m_lenS i9.ok) ?_;refine au ?_;refine go (m_lenS i9.ok) ?_ (gY (decide_eq_true c));refine au ?_;exact ft r0;refine ar ?_;refine goA (m_lenS i9.ok) ?_;refine au ?_;exact ft r0
def X2(a:Nat):Option Bool := if ((a:Nat):Int)=0 then(some (true)) else if (QeY .gtr a 0)=true then(some ((QeY .leq a 4607182418800017408))) else some (false)
theorem Qch{a r}:Sm (X2 a) r->DCall Tryz.prog 104 [.lit (.float .f64 a)] [] (DB r) []:=by unfold X2;refine mk0 Tryz.func104 ?_;refine ar ?_;refine xs (λb=>?_) λb=>?_;refine ar ?_;refine goA (m_ext1 (u:=.float .f64 a) (v:=.int .u64 ((a:Nat):Int)) (λ_=>by rw[run_callFunc_extern Tryz.func135 Ok Ok Ok (e:=Extern.MathFloatBits.float64bits) Ok];rfl) rfl) ?_;refine au ?_;exact ft r0;refine xs (λc=>?_) λc=>?_;refine ar ?_;refine goA (m_ext1 (u:=.float .f64 a) (v:=.int .u64 ((a:Nat):Int)) (λ_=>by rw[run_callFunc_extern Tryz.func135 Ok Ok Ok (e:=Extern.MathFloatBits.float64bits) Ok];rfl) rfl) ?_;refine au ?_;refine go (QeW (.inr (.inr (.inr (.inr (.inl rfl)))))) ?_ (gY (decide_eq_false b));refine au ?_;refine go (QeW (.inr (.inr (.inr (.inl rfl))))) ?_ (gY c);refine au ?_;exact ft r0;refine ar ?_;refine goA (m_ext1 (u:=.float .f64 a) (v:=.int .u64 ((a:Nat):Int)) (λ_=>by rw[run_callFunc_extern Tryz.func135 Ok Ok Ok (e:=Extern.MathFloatBits.float64bits) Ok];rfl) rfl) ?_;refine au ?_;refine go (QeW (.inr (.inr (.inr (.inr (.inl rfl)))))) ?_ (gY (decide_eq_false b));refine au ?_;exact ft r0
def ZC(a:Int):Option Bool := if 3<=a then(some (decide (a<=8))) else some (false)
theorem Jj{a r}:Sm (ZC a) r->DCall Tryz.prog 52 [DI a] [] (DB r) []:=by unfold ZC;refine mk0 Tryz.func52 ?_;refine ar ?_;refine xs (λb=>?_) λb=>?_;refine ar ?_;exact ft r0;refine ar ?_;exact ft r0
def QaZ :Option Rts := if 0<=(32:Int)/\(32:Int)*1<=281474976710656/\(32:Int)<=9223372036854775807 then if 0<=(32:Int)/\(32:Int)*8<=281474976710656/\(32:Int)<=9223372036854775807 then some (Rts.mk (List.replicate (Int.toNat 32) false) (List.replicate (Int.toNat 32) (0:Int))) else none else none
theorem F_ref20_New_ok{r}:Sm (QaZ) r->DCall Tryz.prog 62 [] [] (.agg [.own 0 0 r.used.length,.own 1 0 r.refs.length]) [(0,aO 1 (r.used.map bC)),(1,aO 1 (r.refs.map uC))]:=by unfold QaZ;refine mk0 Tryz.func62 ?_;refine ar ?_;refine xc λa=>?_;refine xc λb=>?_;refine ar ?_;refine goA (m_mkE (c:=bC) false a i32.ok i4.ok) ?_;refine goA (m_mkE (c:=uC) 0 b i26.ok i61.ok) ?_;refine au ?_;exact fw [(0,1),(1,2)]
def QaX :Option Gra := if 0<=(32:Int)/\(32:Int)*1<=281474976710656/\(32:Int)<=9223372036854775807 then if 0<=(32:Int)/\(32:Int)*8<=281474976710656/\(32:Int)<=9223372036854775807 then(Qh (λ(a:List Int×Int) => if a.2<((List.replicate (Int.toNat 32) (0:Int)).length:Int) then((at_ a.1 a.2).bind λb => some (.go ((a.1.set (Int.toNat a.2) (-1),w64 (a.2+1))))) else some (.out (a.1))) (List.replicate (Int.toNat 32) (0:Int),0)).bind λ(c:List Int) => some (Gra.mk ([]:List Nod) (List.replicate (Int.toNat 32) false) c) else none else none
theorem F_ref29_New_ok{r}:Sm (QaX) r->DCall Tryz.prog 35 [] [] (.agg [.own 0 0 r.nodes.length,.own 1 0 r.used.length,.own 2 0 r.roots.length]) [(0,aO 2 (r.nodes.map Nod.c)),(1,aO 1 (r.used.map bC)),(2,aO 1 (r.roots.map iC))]:=by unfold QaX;refine mk0 Tryz.func35 ?_;refine ar ?_;refine xc λf=>?_;refine xc λg=>?_;refine ar ?_;refine goA (m_mkE (c:=bC) false f i32.ok i4.ok) ?_;refine goA (m_mkE (c:=iC) 0 g i22.ok i3.ok) ?_;refine au ?_;refine cT [] [(0,λb=>.ptr 0 0 0),(1,λb=>.ptr 3 0 0)] [0,1] [] [(2,λb=>aO 1 (b.map iC)),(3,λb=>bO 3 [DN,.own 1 0 (List.replicate (Int.toNat 32) false).length,.own 2 0 b.length])] 4 (λj=>?_) λb=>?_;refine ar ?_;refine lP [8] [(0,λa=>.ptr 0 0 0),(1,λa=>.ptr 3 0 0),(9,λa=>DI a.2)] [0,1] [] [(2,λa=>aO 1 (a.1.map iC)),(3,λa=>bO 3 [DN,.own 1 0 (List.replicate (Int.toNat 32) false).length,.own 2 0 a.1.length])] 4 λa l e=>?_;refine ar ?_;refine sq λK k=>?_;refine xs (λh=>?_) λh=>?_;refine ca ?_;refine sq λK k=>?_;refine ar ?_;refine xa λi d=>?_;refine ar ?_;refine goA (Xr (c:=iC) d.h (-1) i3.ok) ?_;refine au ?_;refine ar ?_;exact wJ [];refine cb ?_;refine xo e ?_;exact wJ [];refine ar ?_;refine xx (Qj 0 0 2 Od rfl rfl) ?_;exact fw [(0,4),(1,1),(2,2)]
def QaF(a:Qc):Option (Bool×Qc) := some ((decide (a.pos<(a.l.length:Int)),a))
theorem QdD{a r}:Sm (QaF a) r->DCall Tryz.prog 37 [.ptr 0 0 0] [(0,bO 2 [.sl (a.l.map iC),DI a.pos])] (DB r.1) [(0,bO 2 [.sl (r.2.l.map iC),DI r.2.pos])]:=by unfold QaF;refine mk0 Tryz.func37 ?_;refine ar ?_;refine ar ?_;exact ft r1
def Qt(a:Hp)(b:Int):Option (Hp×Ans) := some ((a,Ans.mk b 0))
theorem Qq{a b r}:Sm (Qt a b) r->DCall Tryz.prog 64 [.agg [.lit (.string a.config.name),.sl (a.config.rules.map Rul.c),DI a.config.full,DI a.space.sh,.sl (a.space.ws.map uC),.sl (a.space.fs.map frC),.sl (a.belts.map (lC Inc.c)),DI a.seq,.sl (a.sets.map Qe.c),.sl (a.roots.used.map bC),.sl (a.roots.refs.map uC),DI a.since,DI a.stats.allocated,DI a.stats.objects,DI a.stats.collections,DI a.stats.steps,DI a.stats.rounds,DI a.stats.condemned,DI a.stats.copied,DI a.stats.entries,DI a.stats.work,DB a.dead],DI b] [] (.tup [.agg [.lit (.string r.1.config.name),.sl (r.1.config.rules.map Rul.c),DI r.1.config.full,DI r.1.space.sh,.sl (r.1.space.ws.map uC),.sl (r.1.space.fs.map frC),.sl (r.1.belts.map (lC Inc.c)),DI r.1.seq,.sl (r.1.sets.map Qe.c),.sl (r.1.roots.used.map bC),.sl (r.1.roots.refs.map uC),DI r.1.since,DI r.1.stats.allocated,DI r.1.stats.objects,DI r.1.stats.collections,DI r.1.stats.steps,DI r.1.stats.rounds,DI r.1.stats.condemned,DI r.1.stats.copied,DI r.1.stats.entries,DI r.1.stats.work,DB r.1.dead],.agg [DI r.2.err,DU r.2.value]]) []:=by unfold Qt;refine mk0 Tryz.func64 ?_;refine ar ?_;refine ar ?_;exact fww r0
def XP(a:Int)(b:Int):Option (Int×Int) := if a<0 then(some ((0,13))) else if 15<a then(some ((0,13))) else if b<0 then(some ((0,13))) else if 32<b then(some ((0,13))) else some ((wu (w64 ((w64 ((w64 ((w64 (1+a))+b))*256))+(w64 (a*2)))),0))
theorem Qa3{a b r}:Sm (XP a b) r->DCall Tryz.prog 105 [DI a,DI b] [] (.tup [DU r.1,DI r.2]) []:=by unfold XP;refine mk0 Tryz.func105 ?_;refine ar ?_;refine sq λK k=>?_;refine xs (λc=>?_) λc=>?_;refine ar ?_;refine da ?_;exact ftt r0;refine xs (λd=>?_) λd=>?_;refine ar ?_;refine da ?_;exact ftt r0;refine xs (λe=>?_) λe=>?_;refine ar ?_;refine da ?_;exact ftt r0;refine ar ?_;refine xs (λf=>?_) λf=>?_;refine da ?_;exact ftt r0;refine db ?_;exact ftt r0
def ZX(c:Rts):Option (List Int) := (Qh (λ(a:List Int×Int) => if a.2<(c.used.length:Int) then((at_ c.used a.2).bind λb => if b=true then(if ((a.1.length:Int)+[w64 (a.2+1)].length)*8<=140737488355328/\(a.1.length:Int)+[w64 (a.2+1)].length<=9223372036854775807 then some (.go ((a.1++[w64 (a.2+1)],w64 (a.2+1)))) else none) else some (.go ((a.1,w64 (a.2+1))))) else some (.out (a.1))) (([]:List Int),0)).bind λ(d:List Int) => some (d)
theorem JQ{g r}:Sm (ZX g) r->DCall Tryz.prog 136 [.agg [.sl (g.used.map bC),.sl (g.refs.map uC)]] [] (.own 0 0 r.length) [(0,aO 1 (r.map iC))]:=by unfold ZX;refine mk0 Tryz.func136 ?_;refine ar ?_;refine ar ?_;refine cT [] [(3,λb=>.own 1 0 b.length)] [] [] [(1,λb=>aO 1 (b.map iC))] 2 (λl=>?_) λb=>?_;refine ar ?_;refine xx (Qz 3 1 Od rfl) ?_;refine lP [7,8] [(3,λa=>.own 1 0 a.1.length),(9,λa=>DI a.2)] [] [] [(1,λa=>aO 1 (a.1.map iC))] 2 λa m d=>?_;refine ar ?_;refine sq λK k=>?_;refine xs (λi=>?_) λi=>?_;refine ca ?_;refine sq λK k=>?_;refine au ?_;refine xa λj h=>?_;refine ar ?_;refine ar ?_;refine xs (λe=>?_) λe=>?_;refine ca ?_;refine xc λf=>?_;refine ar ?_;refine goA (Ql (c:=iC) ([w64 (a.2+1)]:List Int) i22.ok i3.ok) ?_;refine goA (QW (c:=iC) a.1 [w64 (a.2+1)] f i22.ok i3.ok rfl rfl (.own rfl rfl Os (Qg (c:=iC) (λ_=>rfl) _)) rfl) ?_;refine au ?_;refine ar ?_;exact wJ [(1,3)];refine db ?_;exact wJ [];refine cb ?_;refine xo d ?_;exact wJ [];refine ar ?_;exact ft [(0,1)]
def JV(a:List Int):Option (List Int) := if (a.length:Int)*8<=140737488355328/\(a.length:Int)<=9223372036854775807 then some (a) else none
theorem Qfa{a r}:Sm (JV a) r->DCall Tryz.prog 146 [.sl (a.map uC)] [] (.own 0 0 r.length) [(0,aO 1 (r.map uC))]:=by unfold JV;refine mk0 Tryz.func146 ?_;refine ar ?_;refine xc λb=>?_;refine ar ?_;refine goA (QbV (c:=uC) a b i26.ok i61.ok rfl (.sl rfl (Qg (c:=uC) (λ_=>rfl) _))) ?_;refine au ?_;exact ft r1
def Q5(c:List (List Inc)):Option (List (List Inc)) := (Qh (λ(a:List (List Inc)×Int) => if a.2<(c.length:Int) then((at_ c a.2).bind λb => if (b.length:Int)*40<=140737488355328/\(b.length:Int)<=9223372036854775807 then if ((a.1.length:Int)+1)*24<=140737488355328/\(a.1.length:Int)+1<=9223372036854775807 then some (.go ((a.1++[b],w64 (a.2+1)))) else none else none) else some (.out (a.1))) (([]:List (List Inc)),0)).bind λ(d:List (List Inc)) => some (d)
theorem ZU{l r}:Sm (Q5 l) r->DCall Tryz.prog 112 [.sl (l.map (lC Inc.c))] [] (.own 0 0 r.length) [(0,⟨1,false,false,r.map (lD 5 Inc.c)⟩)]:=by
 unfold Q5;refine mk0 Tryz.func112 ?_;refine ar ?_;refine ar ?_;refine cT [] [(3,λd=>.own 0 0 d.length)] [] [] [(0,λd=>⟨1,false,false,d.map (lD 5 Inc.c)⟩)] 1 (λn=>?_) λd=>?_;refine ar ?_;refine xx (Qz 3 1 Od rfl) ?_;refine xx (Qp (Qdd (cd:=(lD 5 Inc.c)) (s:=0) rfl)) ?_;refine lP [6,7] [(3,λb=>.own 0 0 b.1.length),(8,λb=>DI b.2)] [] [] [(0,λb=>⟨1,false,false,b.1.map (lD 5 Inc.c)⟩)] 1 λb o f=>?_;refine ar ?_;refine sq λK k=>?_;refine xs (λm=>?_) λm=>?_;refine ca ?_;refine sq λK k=>?_;refine au ?_;refine xa λa i=>?_;refine ar ?_;refine xc λg=>?_;refine xc λh=>?_;refine ar ?_;refine goA (QbV (c:=Inc.c) a g i52.ok i56.ok rfl (.sl rfl (Qg (c:=Inc.c) (λ_=>rfl) _))) ?_;refine goA (m_litD [[.own 1 0 a.length]] i30.ok i52.ok) ?_;refine goA (m_apD (cd:=(lD 5 Inc.c)) b.1 a [.own 1 0 a.length] h i30.ok i52.ok rfl rfl (by first | rfl | omega | (simp;done) | (simp;omega)) rfl rfl rfl) ?_;refine au ?_;refine ar ?_;intro H;have e:=se H;subst e;exact ⟨_,rfl,ZM.trans (attL (s:=3) (t:=1) (j:=0) (c:=Inc.c) [.dp 5 (a.map Inc.c)] rfl rfl rfl rfl rfl rfl) (ZM.trans (tellL (s:=3) a rfl rfl) (wkJ [(0,3)]))⟩;refine cb ?_;refine xo f ?_;exact wJ [];refine ar ?_;exact ft r1
def ZZ(c:List Qe):Option (List Qe) := (Qh (λ(b:List Qe×Int) => if b.2<(c.length:Int) then((at_ c b.2).bind λa => if (a.slots.length:Int)*8<=140737488355328/\(a.slots.length:Int)<=9223372036854775807 then if ((b.1.length:Int)+[a].length)*40<=140737488355328/\(b.1.length:Int)+[a].length<=9223372036854775807 then some (.go ((b.1++[a],w64 (b.2+1)))) else none else none) else some (.out (b.1))) (([]:List Qe),0)).bind λ(d:List Qe) => some (d)
theorem JS{i r}:Sm (ZZ i) r->DCall Tryz.prog 113 [.sl (i.map Qe.c)] [] (.own 0 0 r.length) [(0,aO 3 (r.map Qe.c))]:=by unfold ZZ;refine mk0 Tryz.func113 ?_;refine ar ?_;refine ar ?_;refine cT [] [(3,λd=>.own 0 0 d.length)] [] [] [(0,λd=>aO 3 (d.map Qe.c))] 1 (λl=>?_) λd=>?_;refine ar ?_;refine xx (Qz 3 3 Od rfl) ?_;refine lP [6,7] [(3,λb=>.own 0 0 b.1.length),(8,λb=>DI b.2)] [] [] [(0,λb=>aO 3 (b.1.map Qe.c))] 1 λb m e=>?_;refine ar ?_;refine sq λK k=>?_;refine xs (λj=>?_) λj=>?_;refine ca ?_;refine sq λK k=>?_;refine au ?_;refine xa λa h=>?_;refine ar ?_;refine xc λf=>?_;refine xc λg=>?_;refine ar ?_;refine goA (QbV (c:=iC) a.slots f i22.ok i3.ok rfl (.sl rfl (Qg (c:=iC) (λ_=>rfl) _))) ?_;refine au ?_;refine goA (m_litP (c:=Qe.c) ([a]:List Qe) i31.ok i81.ok rfl rfl rfl rfl Od Od Od rfl (pu_lit (pu_lit (pu_own (c:=iC) (ys:=a.slots) rfl pu_nil))) rfl rfl) ?_;refine goA (QW (c:=Qe.c) b.1 [a] g i31.ok i81.ok rfl rfl (.own rfl rfl Os (Qg (c:=Qe.c) (λ_=>rfl) _)) rfl) ?_;refine au ?_;refine ar ?_;exact wJ [(0,4)];refine cb ?_;refine xo e ?_;exact wJ [];refine ar ?_;exact ft r1
def ZY(a:Rts):Option Rts := if (a.used.length:Int)*1<=140737488355328/\(a.used.length:Int)<=9223372036854775807 then if (a.refs.length:Int)*8<=140737488355328/\(a.refs.length:Int)<=9223372036854775807 then some (a) else none else none
theorem JR{a r}:Sm (ZY a) r->DCall Tryz.prog 114 [.agg [.sl (a.used.map bC),.sl (a.refs.map uC)]] [] (.agg [.own 0 0 r.used.length,.own 1 0 r.refs.length]) [(0,aO 1 (r.used.map bC)),(1,aO 1 (r.refs.map uC))]:=by unfold ZY;refine mk0 Tryz.func114 ?_;refine ar ?_;refine xc λb=>?_;refine xc λd=>?_;refine ar ?_;refine goA (QbV (c:=bC) a.used b i32.ok i4.ok rfl (.sl rfl (Qg (c:=bC) (λ_=>rfl) _))) ?_;refine au ?_;refine goA (QbV (c:=uC) a.refs d i26.ok i61.ok rfl (.sl rfl (Qg (c:=uC) (λ_=>rfl) _))) ?_;refine au ?_;exact fw [(0,2),(1,3)]
def QS(c:List (List Inc))(b:Int):Option (Inc×Bool) := if b<0 then(some ((Inc.mk 0 0 0 0 0,false))) else if (c.length:Int)<=b then(some ((Inc.mk 0 0 0 0 0,false))) else(at_ c b).bind λa => if (a.length:Int)=0 then(some ((Inc.mk 0 0 0 0 0,false))) else(at_ a (w64 ((a.length:Int)-1))).bind λd => some ((d,true))
theorem Z4{a b r}:Sm (QS a b) r->DCall Tryz.prog 158 [.sl (a.map (lC Inc.c)),DI b] [] (.tup [.agg [DI r.1.seq,DI r.1.belt,DI r.1.first,DI r.1.last,DI r.1.words],DB r.2]) []:=by unfold QS;refine mk0 Tryz.func158 ?_;refine ar ?_;refine sq λK k=>?_;refine xs (λc=>?_) λc=>?_;refine ar ?_;refine da ?_;exact fwt r0;refine xs (λd=>?_) λd=>?_;refine ar ?_;refine da ?_;exact fwt r0;refine xa λh e=>?_;refine ar ?_;refine xs (λf=>?_) λf=>?_;refine da ?_;exact fwt r0;refine cb ?_;refine xa λi g=>?_;refine ar ?_;exact fwt r0
end Go.Proofs.YtkfnkecgcdhncaaGreat
