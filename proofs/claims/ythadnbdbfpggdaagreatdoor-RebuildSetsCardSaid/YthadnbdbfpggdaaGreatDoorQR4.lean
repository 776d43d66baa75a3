/- Parts of the proof. No condition. -/
import Derived.Test.YthadnbdbfpggdaaGreatDoorQR0
import Derived.Test.YthadnbdbfpggdaaGreatDoorQR3
noncomputable section
namespace Go.Proofs.YthadnbdbfpggdaaGreatDoor
open Go.RowKit
set_option linter.unusedSimpArgs false
set_option linter.unusedVariables false
set_option maxRecDepth 20000
set_option maxHeartbeats 40000000
structure Qe where
  frm:Int
  to:Int
  slots:List Int
def Qe.c(x:Qe):List DV:=[DI x.frm,DI x.to,.sl (x.slots.map iC)]
def Qe.d(x:Qe):List DV:=[DI x.frm,DI x.to,.dp 1 (x.slots.map iC)]
structure Inc where
  seq:Int
  belt:Int
  first:Int
  last:Int
  words:Int
def Inc.c(x:Inc):List DV:=[DI x.seq,DI x.belt,DI x.first,DI x.last,DI x.words]
structure Mov where
  frm:Int
  to:Int
def Mov.c(x:Mov):List DV:=[DI x.frm,DI x.to]
structure QT where
  s:Sp
  pos:Int
  refs:Int
  data:Int
def QT.c(x:QT):List DV:=[DI x.s.sh,.sl (x.s.ws.map uC),.sl (x.s.fs.map frC),DI x.pos,DI x.refs,DI x.data]
def QT.d(x:QT):List DV:=[DI x.s.sh,.dp 1 (x.s.ws.map uC),.dp 3 (x.s.fs.map frC),DI x.pos,DI x.refs,DI x.data]
structure Qc where
  l:List Int
  pos:Int
def Qc.c(x:Qc):List DV:=[.sl (x.l.map iC),DI x.pos]
def Qc.d(x:Qc):List DV:=[.dp 1 (x.l.map iC),DI x.pos]
structure Rul where
  share:Nat
  limit:Int
  batch:Int
  target:Int
def Rul.c(x:Rul):List DV:=[.lit (.float .f64 x.share),DI x.limit,DI x.batch,DI x.target]
structure Cfg where
  name:ByteArray
  rules:List Rul
  full:Int
def Cfg.c(x:Cfg):List DV:=[.lit (.string x.name),.sl (x.rules.map Rul.c),DI x.full]
def Cfg.d(x:Cfg):List DV:=[.lit (.string x.name),.dp 4 (x.rules.map Rul.c),DI x.full]
structure Rts where
  used:List Bool
  refs:List Int
def Rts.c(x:Rts):List DV:=[.sl (x.used.map bC),.sl (x.refs.map uC)]
def Rts.d(x:Rts):List DV:=[.dp 1 (x.used.map bC),.dp 1 (x.refs.map uC)]
structure Sts where
  allocated:Int
  objects:Int
  collections:Int
  steps:Int
  rounds:Int
  condemned:Int
  copied:Int
  entries:Int
  work:Int
def Sts.c(x:Sts):List DV:=[DI x.allocated,DI x.objects,DI x.collections,DI x.steps,DI x.rounds,DI x.condemned,DI x.copied,DI x.entries,DI x.work]
structure Hp where
  config:Cfg
  space:Sp
  belts:List (List Inc)
  seq:Int
  sets:List Qe
  roots:Rts
  since:Int
  stats:Sts
  dead:Bool
def Hp.c(x:Hp):List DV:=[.lit (.string x.config.name),.sl (x.config.rules.map Rul.c),DI x.config.full,DI x.space.sh,.sl (x.space.ws.map uC),.sl (x.space.fs.map frC),.sl (x.belts.map (lC Inc.c)),DI x.seq,.sl (x.sets.map Qe.c),.sl (x.roots.used.map bC),.sl (x.roots.refs.map uC),DI x.since,DI x.stats.allocated,DI x.stats.objects,DI x.stats.collections,DI x.stats.steps,DI x.stats.rounds,DI x.stats.condemned,DI x.stats.copied,DI x.stats.entries,DI x.stats.work,DB x.dead]
def Hp.d(x:Hp):List DV:=[.lit (.string x.config.name),.dp 4 (x.config.rules.map Rul.c),DI x.config.full,DI x.space.sh,.dp 1 (x.space.ws.map uC),.dp 3 (x.space.fs.map frC),.dp 1 (x.belts.map (lC Inc.c)),DI x.seq,.dp 3 (x.sets.map Qe.c),.dp 1 (x.roots.used.map bC),.dp 1 (x.roots.refs.map uC),DI x.since,DI x.stats.allocated,DI x.stats.objects,DI x.stats.collections,DI x.stats.steps,DI x.stats.rounds,DI x.stats.condemned,DI x.stats.copied,DI x.stats.entries,DI x.stats.work,DB x.dead]
structure Nod where
  refs:List Int
  data:List Int
def Nod.c(x:Nod):List DV:=[.sl (x.refs.map iC),.sl (x.data.map uC)]
def Nod.d(x:Nod):List DV:=[.dp 1 (x.refs.map iC),.dp 1 (x.data.map uC)]
structure Gra where
  nodes:List Nod
  used:List Bool
  roots:List Int
def Gra.c(x:Gra):List DV:=[.sl (x.nodes.map Nod.c),.sl (x.used.map bC),.sl (x.roots.map iC)]
def Gra.d(x:Gra):List DV:=[.dp 2 (x.nodes.map Nod.c),.dp 1 (x.used.map bC),.dp 1 (x.roots.map iC)]
structure AOp where
  code:Int
  a:Int
  b:Int
  c_:Int
def AOp.c(x:AOp):List DV:=[DI x.code,DI x.a,DI x.b,DI x.c_]
structure Ans where
  err:Int
  value:Int
def Ans.c(x:Ans):List DV:=[DI x.err,DU x.value]
structure Cur where
  belt:Int
  begun:Bool
  last:Int
def Cur.c(x:Cur):List DV:=[DI x.belt,DB x.begun,DI x.last]
structure Rpt where
  condemned:Int
  survived:Int
  entries:Int
  work:Int
def Rpt.c(x:Rpt):List DV:=[DI x.condemned,DI x.survived,DI x.entries,DI x.work]
structure Qp where
  s:Sp
  l:List Inc
  to:Inc
  moves:List Mov
  e:Int
def Qp.c(x:Qp):List DV:=[DI x.s.sh,.sl (x.s.ws.map uC),.sl (x.s.fs.map frC),.sl (x.l.map Inc.c),DI x.to.seq,DI x.to.belt,DI x.to.first,DI x.to.last,DI x.to.words,.sl (x.moves.map Mov.c),DI x.e]
def Qp.d(x:Qp):List DV:=[DI x.s.sh,.dp 1 (x.s.ws.map uC),.dp 3 (x.s.fs.map frC),.dp 5 (x.l.map Inc.c),DI x.to.seq,DI x.to.belt,DI x.to.first,DI x.to.last,DI x.to.words,.dp 2 (x.moves.map Mov.c),DI x.e]
abbrev hRx(x:Hp):List DV:=[.lit (.string x.config.name),.sl (x.config.rules.map Rul.c),DI x.config.full,DI x.space.sh,.sl (x.space.ws.map uC),.sl (x.space.fs.map frC),.sl (x.belts.map (lC Inc.c)),DI x.seq,.sl (x.sets.map Qe.c),.sl (x.roots.used.map bC),.sl (x.roots.refs.map uC),DI x.since,DI x.stats.allocated,DI x.stats.objects,DI x.stats.collections,DI x.stats.steps,DI x.stats.rounds,DI x.stats.condemned,DI x.stats.copied,DI x.stats.entries,DI x.stats.work,DB x.dead]
abbrev sR(x:Sp):List DV:=[DI x.sh,.sl (x.ws.map uC),.sl (x.fs.map frC)]
abbrev nR(x:Inc):List DV:=[DI x.seq,DI x.belt,DI x.first,DI x.last,DI x.words]
abbrev hZ:Hp:=Hp.mk (Cfg.mk ⟨#[]⟩ ([]:List Rul) 0) (Sp.mk 0 ([]:List Int) ([]:List Fe)) ([]:List (List Inc)) 0 ([]:List Qe) (Rts.mk ([]:List Bool) ([]:List Int)) 0 (Sts.mk 0 0 0 0 0 0 0 0 0) false
def QaR(a:Sp):Option Bool := if (a.ws.length:Int)<=3000 then(some (decide ((a.fs.length:Int)<=80))) else some (false)
theorem X6{a r}:Sm (QaR a) r->DCall Tryz.prog 6 [.agg (sR a)] [] (DB r) []:=by unfold QaR;refine mk0 Tryz.func6 ?_;refine ar (xs (λb=>?_) λb=>?_);refine ar ?_;exact ft r0;refine ar ?_;exact ft r0
def Qbr(b:List Qe):Option Bool := (Qf (λ(a:Int×Int) => if a.2<(b.length:Int) then((at_ b a.2).bind λc => some (.go ((w64 (a.1+(c.slots.length:Int)),w64 (a.2+1))))) else some (.out (a.1))) (0,0)).bind λ(d:Int) => if (b.length:Int)<=40 then(some (decide (d<=300))) else some (false)
theorem QaF{e r}:Sm (Qbr e) r->DCall Tryz.prog 7 [.sl (e.map Qe.c)] [] (DB r) []:=by unfold Qbr;refine mk0 Tryz.func7 ?_;refine ar ?_;refine ar ?_;refine cT [0] [(3,λd=>DI d)] [] [] [] 0 (λh=>?_) λd=>?_;refine ar ?_;refine lP [0,6,7] [(3,λa=>DI a.1),(8,λa=>DI a.2)] [] [] [] 0 λa i b=>?_;refine ar (sq λK k=>?_);refine xs (λf=>?_) λf=>?_;refine ca (sq λK k=>?_);refine au (xa λj g=>?_);refine ar ?_;refine ar ?_;refine ar ?_;exact wJ [];refine cb (xo b ?_);exact wJ [];refine xs (λc=>?_) λc=>?_;refine ar ?_;exact ft r0;refine ar ?_;exact ft r0
def Zr(a:Int):Option Bool := if 3<=a then(some (decide (a<=8))) else some (false)
theorem QY{a r}:Sm (Zr a) r->DCall Tryz.prog 40 [DI a] [] (DB r) []:=by unfold Zr;refine mk0 Tryz.func40 ?_;refine ar (xs (λb=>?_) λb=>?_);refine ar ?_;exact ft r0;refine ar ?_;exact ft r0
def Qao(a:Int):Option Bool := if 3<=a then(some (decide (a<=8))) else some (false)
theorem Xu{a r}:Sm (Qao a) r->DCall Tryz.prog 48 [DI a] [] (DB r) []:=by unfold Qao;refine mk0 Tryz.func48 ?_;refine ar (xs (λb=>?_) λb=>?_);refine ar ?_;exact ft r0;refine ar ?_;exact ft r0
def QaT(b:List Int):Option Bool := bndR (Qf (λ(a:Int) => if a<(b.length:Int) then((at_ b a).bind λc => if c=0 then(some (.go (w64 (a+1)))) else some (.out (.inr (false)))) else some (.out (.inl (())))) 0) λ(d:Unit) => some (true)
theorem Qhh{e r}:Sm (QaT e) r->DCall Tryz.prog 49 [.sl (e.map uC)] [] (DB r) []:=by unfold QaT;refine mk0 Tryz.func49 ?_;refine ar ?_;refine cU [] [] [] [] [] 0 (λh b=>?_) λi=>?_;refine ar ?_;refine lP [5,6] [(7,λd=>DI d)] [] [] [] 0 λd j a=>?_;refine ar (sq λK k=>?_);refine xs (λf=>?_) λf=>?_;refine ca (sq λK k=>?_);refine au (xa λl g=>?_);refine ar ?_;refine ar (xs (λc=>?_) λc=>?_);refine db ?_;exact wJ [];refine da (xo a ?_);refine xr b ?_;exact ft r0;refine cb (xo a ?_);exact wJ [];refine ar ?_;exact ft r0
def Xt(c:Sp):Option Bool := bndR (Qf (λ(b:Int) => if b<(c.fs.length:Int) then(bndR ((at_ c.fs b).bind λd => Qf (λ(a:Int×Int) => if 0<=a.1 then(if a.2<(c.fs.length:Int) then(if a.1=b then(some (.out (.inr (.out (.inr (false)))))) else(at_ c.fs a.1).bind λe => some (.go ((e.nx,w64 (a.2+1))))) else some (.out (.inl (())))) else some (.out (.inl (())))) (d.nx,0)) λ(f:Unit) => some (.go (w64 (b+1)))) else some (.out (.inl (())))) 0) λ(g:Unit) => some (true)
theorem Qd2{d r}:Sm (Xt d) r->DCall Tryz.prog 50 [.agg (sR d)] [] (DB r) []:=by unfold Xt;refine mk0 Tryz.func50 ?_;refine ar ?_;refine cU [] [] [] [] [] 0 (λs e=>?_) λt=>?_;refine ar ?_;refine lP [8] [(1,λf=>.ptr 0 0 0),(9,λf=>DI f)] [0] [] [] 1 λf u c=>?_;refine ar (sq λK k=>?_);refine xs (λn=>?_) λn=>?_;refine ca ?_;refine cU [1,8,9] [] [0] [] [] 1 (λv g=>?_) λw=>?_;refine ar (xa λo l=>?_);refine ar ?_;refine ar ?_;refine lP [1,3,8,9] [(4,λb=>DI b.1),(5,λb=>DI b.2)] [0] [] [] 1 λb p a=>?_;refine sq λK k=>?_;refine xs (λh=>?_) λh=>?_;refine ar (xs (λi=>?_) λi=>?_);refine ca (sq λK k=>?_);refine au (sq λK k=>?_);refine ar (xs (λj=>?_) λj=>?_);refine da (xo a ?_);refine xr g ?_;refine xo c ?_;refine xr e ?_;exact ft r0;refine cb (xa λq m=>?_);refine ar ?_;refine ar ?_;exact wJ [];refine cb (xo a ?_);exact wJ [];refine ar ?_;refine cb (xo a ?_);exact wJ [];refine ar ?_;exact wJ [];refine cb (xo c ?_);exact wJ [];refine ar ?_;exact ft r0
def XR(a:Int):Option Bool := if 0<=a then(some (decide (a<64))) else some (false)
theorem Qm{a r}:Sm (XR a) r->DCall Tryz.prog 51 [DI a] [] (DB r) []:=by unfold XR;refine mk0 Tryz.func51 ?_;refine ar (xs (λb=>?_) λb=>?_);refine ar ?_;exact ft r0;refine ar ?_;exact ft r0
def Zk(b:Qe)(a:Qe):Option Int := if b.frm=a.frm then(some (w64 (b.to-a.to))) else some (w64 (b.frm-a.frm))
theorem ZC{b a r}:Sm (Zk b a) r->DCall Tryz.prog 52 [.agg [DI b.frm,DI b.to,.sl (b.slots.map iC)],.agg [DI a.frm,DI a.to,.sl (a.slots.map iC)]] [] (DI r) []:=by unfold Zk;refine mk0 Tryz.func52 ?_;refine ar (sq λK k=>?_);refine ar (xs (λc=>?_) λc=>?_);refine db ?_;exact ft r0;refine da ?_;exact ft r0
def Qbb(f:Sp)(e:List Inc):Option Int := (Qf (λ(b:Int×Int) => if b.2<(f.fs.length:Int) then(((at_ f.fs b.2).bind λc => Qf (λ(a:Int×Int) => if a.2<(e.length:Int) then((at_ e a.2).bind λd => if c.ow=d.seq then(if b.2<64 then(if 0<=wu b.2 then some (.go ((bits .or .u64 a.1 (Qbv .u64 1 (wu b.2)),w64 (a.2+1)))) else none) else some (.go ((a.1,w64 (a.2+1))))) else some (.go ((a.1,w64 (a.2+1))))) else some (.out (a.1))) (b.1,0)).bind λ(g:Int) => some (.go ((g,w64 (b.2+1))))) else some (.out (b.1))) (0,0)).bind λ(h:Int) => some (h)
theorem F_scan_set_ok{d n r}:Sm (Qbb d n) r->DCall Tryz.prog 57 [.agg (sR d),.sl (n.map Inc.c)] [] (DU r) []:=by unfold Qbb;refine mk0 Tryz.func57 ?_;refine ar ?_;refine ar ?_;refine cT [] [(5,λi=>DU i)] [] [] [] 0 (λu=>?_) λi=>?_;refine ar ?_;refine lP [1,11,12] [(5,λc=>DU c.1),(13,λc=>DI c.2)] [] [] [] 0 λc v e=>?_;refine ar (sq λK k=>?_);refine xs (λo=>?_) λo=>?_;refine ca ?_;refine cT [1,11,12,13] [(5,λj=>DU j)] [] [] [] 0 (λw=>?_) λj=>?_;refine au (xa λp l=>?_);refine ar ?_;refine ar ?_;refine lP [1,6,11,12,13,18,19] [(5,λa=>DU a.1),(7,λa=>.ptr 0 0 0),(20,λa=>DI a.2)] [0] [] [] 1 λa q b=>?_;refine ar (sq λK k=>?_);refine xs (λf=>?_) λf=>?_;refine ca (sq λK k=>?_);refine au (xa λs m=>?_);refine ar (xs (λg=>?_) λg=>?_);refine ar (xs (λh=>?_) λh=>?_);refine ca (xc λt=>?_);refine ar ?_;refine ar ?_;exact wJ [];refine db ?_;exact wJ [];refine ar ?_;refine db ?_;exact wJ [];refine cb (xo b ?_);exact wJ [];refine ar ?_;exact wJ [];refine cb (xo e ?_);exact wJ [];refine ar ?_;exact ft r0
def Q1(a:Int):Option Int := if a=0 then(some (64)) else(at_ tabL (QbV .u64 (wu ((bits .and .u64 a (wu (0-a)))*285870213051353865)) 58)).bind λb => some (w64 b)
theorem QbT{b r}:Sm (Q1 b) r->DCall Tryz.prog 58 [DU b] [] (DI r) []:=by unfold Q1;refine mk0 Tryz.func58 ?_;refine ar (sq λK k=>?_);refine ar (xs (λc=>?_) λc=>?_);refine da ?_;exact ft r0;refine cb (xa λd a=>?_);refine ar ?_;refine goA (m_iaG a i163.ok i5.ok) ?_;refine au ?_;exact ft r0
def QbL(c:List Qe):Option (List Qe) := (Qf (λ(a:List Qe×Int) => if a.2<(c.length:Int) then((at_ c a.2).bind λb => if (b.slots.length:Int)*8<=140737488355328/\(b.slots.length:Int)<=9223372036854775807 then if ((a.1.length:Int)+1)*40<=140737488355328/\(a.1.length:Int)+1<=9223372036854775807 then some (.go ((a.1++[b],w64 (a.2+1)))) else none else none) else some (.out (a.1))) (([]:List Qe),0)).bind λ(d:List Qe) => some (d)
theorem Qhi{l r}:Sm (QbL l) r->DCall Tryz.prog 54 [.sl (l.map Qe.c)] [] (.own 0 0 r.length) [(0,⟨3,false,false,r.map Qe.d⟩)]:=by
 unfold QbL;refine mk0 Tryz.func54 ?_;refine ar ?_;refine ar ?_;refine cT [] [(3,λd=>.own 0 0 d.length)] [] [] [(0,λd=>⟨3,false,false,d.map Qe.d⟩)] 1 (λn=>?_) λd=>?_;refine ar ?_;refine xx (QF 3 3 Od rfl) ?_;refine xx (Qq (QcS (cd:=Qe.d) (s:=0) rfl)) ?_;refine lP [6,7] [(3,λb=>.own 0 0 b.1.length),(8,λb=>DI b.2)] [] [] [(0,λb=>⟨3,false,false,b.1.map Qe.d⟩)] 1 λb o f=>?_;refine ar (sq λK k=>?_);refine xs (λm=>?_) λm=>?_;refine ca (sq λK k=>?_);refine au (xa λa i=>?_);refine ar (xc λg=>?_);refine xc λh=>?_;refine ar ?_;refine goA (Qco (c:=iC) a.slots g i28.ok i3.ok rfl (.sl rfl (Qg (c:=iC) (λ_=>rfl) _))) ?_;refine au ?_;refine goA (m_litD [[DI a.frm,DI a.to,.own 2 0 a.slots.length]] i26.ok i62.ok) ?_;refine goA (m_apD (cd:=Qe.d) b.1 a [DI a.frm,DI a.to,.own 2 0 a.slots.length] h i26.ok i62.ok rfl rfl (by first | rfl | omega | (simp;done) | (simp;omega)) rfl rfl rfl) ?_;refine au ?_;refine ar ?_;intro H;have e:=se H;subst e;exact ⟨_,rfl,ZB.trans (attL (s:=4) (t:=2) (j:=2) (c:=iC) [DI a.frm,DI a.to,.dp 1 (a.slots.map iC)] rfl rfl rfl rfl rfl rfl) (ZB.trans (tellL (s:=4) a rfl rfl) (wkJ [(0,4)]))⟩;refine cb (xo f ?_);exact wJ [];refine ar ?_;exact ft r1
def ZN(b:List Int)(d:Int):Option Int := bndR (Qf (λ(a:Int) => if a<(b.length:Int) then((at_ b a).bind λc => if d=c then(some (.out (.inr (a)))) else some (.go (w64 (a+1)))) else some (.out (.inl (())))) 0) λ(e:Unit) => some ((-1))
theorem Qc4{f e r}:Sm (ZN f e) r->DCall Tryz.prog 87 [.sl (f.map iC),DI e] [] (DI r) []:=by unfold ZN;refine mk0 Tryz.func87 ?_;refine ar ?_;refine cU [] [] [] [] [] 0 (λi b=>?_) λj=>?_;refine ar ?_;refine lP [0,1,7] [(8,λd=>DI d)] [] [] [] 0 λd l a=>?_;refine ar (sq λK k=>?_);refine xs (λg=>?_) λg=>?_;refine ca (sq λK k=>?_);refine ar (xa λm h=>?_);refine ar (xs (λc=>?_) λc=>?_);refine da (xo a ?_);refine xr b ?_;exact ft r0;refine db ?_;exact wJ [];refine cb (xo a ?_);exact wJ [];refine ar ?_;exact ft r0
def Jz(c:List Qe):Option (List Qe) := (Qf (λ(a:List Qe×Int) => if a.2<(c.length:Int) then((at_ c a.2).bind λb => if (b.slots.length:Int)*8<=140737488355328/\(b.slots.length:Int)<=9223372036854775807 then if ((a.1.length:Int)+1)*40<=140737488355328/\(a.1.length:Int)+1<=9223372036854775807 then some (.go ((a.1++[b],w64 (a.2+1)))) else none else none) else some (.out (a.1))) (([]:List Qe),0)).bind λ(d:List Qe) => some (d)
theorem Qfc{l r}:Sm (Jz l) r->DCall Tryz.prog 54 [.sl (l.map Qe.c)] [] (.own 0 0 r.length) [(0,aO 3 (r.map Qe.c))]:=by
 unfold Jz;refine mk0 Tryz.func54 ?_;refine ar ?_;refine ar ?_;refine cT [] [(3,λd=>.own 0 0 d.length)] [] [] [(0,λd=>⟨3,false,false,d.map Qe.d⟩)] 1 (λn=>?_) λd=>?_;refine ar ?_;refine xx (QF 3 3 Od rfl) ?_;refine xx (Qq (QcS (cd:=Qe.d) (s:=0) rfl)) ?_;refine lP [6,7] [(3,λb=>.own 0 0 b.1.length),(8,λb=>DI b.2)] [] [] [(0,λb=>⟨3,false,false,b.1.map Qe.d⟩)] 1 λb o f=>?_;refine ar (sq λK k=>?_);refine xs (λm=>?_) λm=>?_;refine ca (sq λK k=>?_);refine au (xa λa i=>?_);refine ar (xc λg=>?_);refine xc λh=>?_;refine ar ?_;refine goA (Qco (c:=iC) a.slots g i28.ok i3.ok rfl (.sl rfl (Qg (c:=iC) (λ_=>rfl) _))) ?_;refine au ?_;refine goA (m_litD [[DI a.frm,DI a.to,.own 2 0 a.slots.length]] i26.ok i62.ok) ?_;refine goA (m_apD (cd:=Qe.d) b.1 a [DI a.frm,DI a.to,.own 2 0 a.slots.length] h i26.ok i62.ok rfl rfl (by first | rfl | omega | (simp;done) | (simp;omega)) rfl rfl rfl) ?_;refine au ?_;refine ar ?_;intro H;have e:=se H;subst e;exact ⟨_,rfl,ZB.trans (attL (s:=4) (t:=2) (j:=2) (c:=iC) [DI a.frm,DI a.to,.dp 1 (a.slots.map iC)] rfl rfl rfl rfl rfl rfl) (ZB.trans (tellL (s:=4) a rfl rfl) (wkJ [(0,4)]))⟩;refine cb (xo f ?_);exact wJ [];refine ar ?_
 refine xx (Qq (ZB.flat (s:=0) (c:=Qe.c) rfl (λ_=>rfl) (λ_=>rfl))) ?_;exact ft r1
def JA(a:Sp)(b:Int)(c:Int):Option (Int×Int×Bool) := if c=0 then(some ((0,0,false))) else if (wu (a.ws.length:Int))<c then(some ((0,0,false))) else if b<0 then(some ((0,0,false))) else if (a.ws.length:Int)<=b then(some ((0,0,false))) else if 0<=wu a.sh then some ((QbV .i64 b (wu a.sh),QbV .i64 (w64 (wu (c-1))) (wu a.sh),true)) else none
theorem Qfd{a b c r}:Sm (JA a b c) r->DCall Tryz.prog 59 [.agg (sR a),DI b,DU c] [] (.tup [DI r.1,DI r.2.1,DB r.2.2]) []:=by unfold JA;refine mk0 Tryz.func59 ?_;refine ar (sq λK k=>?_);refine xs (λd=>?_) λd=>?_;refine ar ?_;refine da ?_;exact fttt r0;refine xs (λe=>?_) λe=>?_;refine ar ?_;refine da ?_;exact fttt r0;refine xs (λf=>?_) λf=>?_;refine ar ?_;refine da ?_;exact fttt r0;refine ar (xs (λg=>?_) λg=>?_);refine da ?_;exact fttt r0;refine cb (xc λh=>?_);refine ar ?_;exact fttt r0
def X8(a:Int):Option Bool := some (!(decide (a=a)))
theorem ZV{a r}:Sm (X8 a) r->DCall Tryz.prog 125 [DI a] [] (DB r) []:=by unfold X8;refine mk0 Tryz.func125 ?_;refine ar ?_;refine ar ?_;exact ft r0
def Zf(a:Int):Option Bool := some (!(decide (a=a)))
theorem XQ{a r}:Sm (Zf a) r->DCall Tryz.prog 92 [DI a] [] (DB r) []:=by unfold Zf;refine mk0 Tryz.func92 ?_;refine ar ?_;refine ar ?_;exact ft r0
def QaU(c:Sp)(b:Int):Option Bool := (at_ c.fs b).bind λa => some (decide (a.ow=(-1)))
theorem Qhj{a b r}:Sm (QaU a b) r->DCall Tryz.prog 128 [.agg (sR a),DI b] [] (DB r) []:=by unfold QaU;refine mk0 Tryz.func128 ?_;refine ar (xa λd c=>?_);refine ar ?_;exact ft r0
def QaV(a:Int)(b:Int):Option Bool := if 0<=a then(if 0<=b then(if a<=64 then(some (decide (b<=(w64 (64-a))))) else some (false)) else some (false)) else some (false)
theorem Qhk{b a r}:Sm (QaV b a) r->DCall Tryz.prog 149 [DI b,DI a] [] (DB r) []:=by unfold QaV;refine mk0 Tryz.func149 ?_;refine ar (xs (λc=>?_) λc=>?_);refine xs (λd=>?_) λd=>?_;refine xs (λe=>?_) λe=>?_;refine ar ?_;exact ft r0;refine ar ?_;exact ft r0;refine ar ?_;exact ft r0;refine ar ?_;exact ft r0
def Qbu(a:Int):Option Int := if a<0 then(some (0)) else if 0<=wu a then some (xorN .u64 (Qbv .u64 18446744073709551615 (wu a))) else none
theorem F_bits_Mask_ok{a r}:Sm (Qbu a) r->DCall Tryz.prog 150 [DI a] [] (DU r) []:=by unfold Qbu;refine mk0 Tryz.func150 ?_;refine ar (sq λK k=>?_);refine ar (xs (λb=>?_) λb=>?_);refine da ?_;exact ft r0;refine cb (xc λc=>?_);refine ar ?_;exact ft r0
def Qdy(a:List Int):Option Qc := some (Qc.mk a 0)
theorem F_make_New_ok{a r}:Sm (Qdy a) r->DCall Tryz.prog 10 [.sl (a.map iC)] [] (.ptr 0 0 0) [(0,bO 2 [.sl (r.l.map iC),DI r.pos])]:=by unfold Qdy;refine mk0 Tryz.func10 ?_;refine ar ?_;refine ar ?_;exact ft r1
def ZA(b:Int)(a:Int):Option Int := if ¬ a=0 then if (Int.tmod b a)<0 then(some (w64 ((Int.tmod b a)+a))) else some (Int.tmod b a) else none
theorem ZU{b a r}:Sm (ZA b a) r->DCall Tryz.prog 15 [DI b,DI a] [] (DI r) []:=by unfold ZA;refine mk0 Tryz.func15 ?_;refine ar (xc λd=>?_);refine ar (sq λK k=>?_);refine ar (xs (λc=>?_) λc=>?_);refine da ?_;refine ar ?_;exact ft r0;refine db ?_;exact ft r0
def Qa9 :Option (List ByteArray) := some ([(ByteArray.mk #[115,101,109,105,115,112,97,99,101]),(ByteArray.mk #[97,112,112,101,108]),(ByteArray.mk #[102,105,120,101,100]),(ByteArray.mk #[111,108,100,101,114,45,102,105,114,115,116]),(ByteArray.mk #[120,120]),(ByteArray.mk #[120,120,49,48,48])])
theorem QfL{r}:Sm (Qa9) r->DCall Tryz.prog 79 [] [] (.own 0 0 r.length) [(0,aO 1 (r.map sC))]:=by unfold Qa9;refine mk0 Tryz.func79 ?_;refine ar ?_;refine ar ?_;refine goA (Qj (c:=sC) ([(ByteArray.mk #[115,101,109,105,115,112,97,99,101]),(ByteArray.mk #[97,112,112,101,108]),(ByteArray.mk #[102,105,120,101,100]),(ByteArray.mk #[111,108,100,101,114,45,102,105,114,115,116]),(ByteArray.mk #[120,120]),(ByteArray.mk #[120,120,49,48,48])]:List ByteArray) i148.ok i9.ok) ?_;refine au ?_;exact ft r1
def ZH(a:Int):Option (Nat×Int) := if a<0 then(some ((0,1))) else if 100<a then(some ((0,1))) else(FloatKind.f64.format.div (FloatKind.f64.nearest a) 4636737291354636288).bind λb => some ((b,0))
theorem QbJ{b r}:Sm (ZH b) r->DCall Tryz.prog 120 [DI b] [] (.tup [.lit (.float .f64 r.1),DI r.2]) []:=by unfold ZH;refine mk0 Tryz.func120 ?_;refine ar (sq λK k=>?_);refine xs (λc=>?_) λc=>?_;refine ar ?_;refine da ?_;exact ftt r0;refine ar (xs (λd=>?_) λd=>?_);refine da ?_;exact ftt r0;refine cb (xd λe a=>?_);refine ar ?_;refine goA (m_fcv i3.ok i150.ok) ?_;refine goA (m_fqu a.h) ?_;refine au ?_;exact ftt r0
def ZR(c:ByteArray):Option Bool := bndR (Qf (λ(a:Int) => if a<(c.size:Int) then((sAt c a).bind λb => if 97<=b then(if b<=122 then(some (.go (w64 (a+1)))) else if a=0 then(some (.out (.inr (false)))) else if b=45 then(some (.go (w64 (a+1)))) else if b<48 then(some (.out (.inr (false)))) else if 57<b then(some (.out (.inr (false)))) else some (.go (w64 (a+1)))) else if a=0 then(some (.out (.inr (false)))) else if b=45 then(some (.go (w64 (a+1)))) else if b<48 then(some (.out (.inr (false)))) else if 57<b then(some (.out (.inr (false)))) else some (.go (w64 (a+1)))) else some (.out (.inl (())))) 0) λ(d:Unit) => if 1<=(c.size:Int) then(some (decide ((c.size:Int)<=16))) else some (false)
theorem QfM{q r}:Sm (ZR q) r->DCall Tryz.prog 130 [.lit (.string q)] [] (DB r) []:=by
 unfold ZR;refine mk0 Tryz.func130 ?_;refine ar ?_;refine cU [0] [] [] [] [] 0 (λt b=>?_) λu=>?_;refine ar ?_;refine lP [0] [(3,λp=>DI p)] [] [] [] 0 λp v a=>?_;refine sq λK k=>?_;refine ar ?_;refine goA (m_lenS i9.ok) ?_;refine au (xs (λs=>?_) λs=>?_);refine ca (sq λK k=>?_);refine au (xd λw d=>?_);refine ar ?_;refine goA (m_idS d.h i9.ok) ?_;refine au (xs (λe=>?_) λe=>?_);refine ar (xs (λf=>?_) λf=>?_);refine ar ?_;refine db ?_;exact wJ [];refine xs (λg=>?_) λg=>?_;refine ar ?_;refine da (xo a ?_);refine xr b ?_;exact ft r0;refine xs (λh=>?_) λh=>?_;refine ar ?_;refine db ?_;exact wJ [];refine xs (λi=>?_) λi=>?_;refine ar ?_;refine da (xo a ?_);refine xr b ?_;exact ft r0;refine ar (xs (λj=>?_) λj=>?_);refine da (xo a ?_);refine xr b ?_;exact ft r0;refine db ?_;exact wJ [];refine ar (xs (λl=>?_) λl=>?_);refine ar ?_;refine da (xo a ?_);refine xr b ?_;exact ft r0;refine xs (λm=>?_) λm=>?_;refine ar ?_;refine db ?_;exact wJ [];refine xs (λn=>?_) λn=>?_;refine ar ?_;refine da (xo a ?_);refine xr b ?_;exact ft r0;refine ar (xs (λo=>?_) λo=>?_);refine da (xo a ?_);refine xr b ?_;exact ft r0;refine db ?_;exact wJ [];refine cb (xo a ?_);exact wJ [];refine xs (λc=>?_) λc=>?_;refine ar ?_
 refine goA (m_lenS i9.ok) ?_;refine au ?_;refine go (m_lenS i9.ok) ?_ (gY (decide_eq_true c));refine au ?_;exact ft r0;refine ar ?_;refine goA (m_lenS i9.ok) ?_;refine au ?_;exact ft r0
def Ji(a:Nat):Option Bool := if ((a:Nat):Int)=0 then(some (true)) else if (Qfx .gtr a 0)=true then(some ((Qfx .leq a 4607182418800017408))) else some (false)
theorem QcH{a r}:Sm (Ji a) r->DCall Tryz.prog 131 [.lit (.float .f64 a)] [] (DB r) []:=by unfold Ji;refine mk0 Tryz.func131 ?_;refine ar (xs (λb=>?_) λb=>?_);refine ar ?_;refine goA (m_ext1 (u:=.float .f64 a) (v:=.int .u64 ((a:Nat):Int)) (λ_=>by rw[run_callFunc_extern Tryz.func151 Ok Ok Ok (e:=Extern.MathFloatBits.float64bits) Ok];rfl) rfl) ?_;refine au ?_;exact ft r0;refine xs (λc=>?_) λc=>?_;refine ar ?_;refine goA (m_ext1 (u:=.float .f64 a) (v:=.int .u64 ((a:Nat):Int)) (λ_=>by rw[run_callFunc_extern Tryz.func151 Ok Ok Ok (e:=Extern.MathFloatBits.float64bits) Ok];rfl) rfl) ?_;refine au ?_;refine go (Qfu (.inr (.inr (.inr (.inr (.inl rfl)))))) ?_ (gY (decide_eq_false b));refine au ?_;refine go (Qfu (.inr (.inr (.inr (.inl rfl))))) ?_ (gY c);refine au ?_;exact ft r0;refine ar ?_;refine goA (m_ext1 (u:=.float .f64 a) (v:=.int .u64 ((a:Nat):Int)) (λ_=>by rw[run_callFunc_extern Tryz.func151 Ok Ok Ok (e:=Extern.MathFloatBits.float64bits) Ok];rfl) rfl) ?_;refine au ?_;refine go (Qfu (.inr (.inr (.inr (.inr (.inl rfl)))))) ?_ (gY (decide_eq_false b));refine au ?_;exact ft r0
def Qbl :Option Rts := if 0<=(32:Int)/\(32:Int)*1<=281474976710656/\(32:Int)<=9223372036854775807 then if 0<=(32:Int)/\(32:Int)*8<=281474976710656/\(32:Int)<=9223372036854775807 then some (Rts.mk (List.replicate (Int.toNat 32) false) (List.replicate (Int.toNat 32) (0:Int))) else none else none
theorem F_ref20_New_ok{r}:Sm (Qbl) r->DCall Tryz.prog 101 [] [] (.agg [.own 0 0 r.used.length,.own 1 0 r.refs.length]) [(0,aO 1 (r.used.map bC)),(1,aO 1 (r.refs.map uC))]:=by unfold Qbl;refine mk0 Tryz.func101 ?_;refine ar (xc λa=>?_);refine xc λb=>?_;refine ar ?_;refine goA (m_mkE (c:=bC) false a i37.ok i4.ok) ?_;refine goA (m_mkE (c:=uC) 0 b i22.ok i80.ok) ?_;refine au ?_;exact fw [(0,1),(1,2)]
def Qbj :Option Gra := if 0<=(32:Int)/\(32:Int)*1<=281474976710656/\(32:Int)<=9223372036854775807 then if 0<=(32:Int)/\(32:Int)*8<=281474976710656/\(32:Int)<=9223372036854775807 then(Qf (λ(a:List Int×Int) => if a.2<((List.replicate (Int.toNat 32) (0:Int)).length:Int) then((at_ a.1 a.2).bind λb => some (.go ((a.1.set (Int.toNat a.2) (-1),w64 (a.2+1))))) else some (.out (a.1))) (List.replicate (Int.toNat 32) (0:Int),0)).bind λ(c:List Int) => some (Gra.mk ([]:List Nod) (List.replicate (Int.toNat 32) false) c) else none else none
theorem F_ref29_New_ok{r}:Sm (Qbj) r->DCall Tryz.prog 73 [] [] (.agg [.own 0 0 r.nodes.length,.own 1 0 r.used.length,.own 2 0 r.roots.length]) [(0,aO 2 (r.nodes.map Nod.c)),(1,aO 1 (r.used.map bC)),(2,aO 1 (r.roots.map iC))]:=by unfold Qbj;refine mk0 Tryz.func73 ?_;refine ar (xc λf=>?_);refine xc λg=>?_;refine ar ?_;refine goA (m_mkE (c:=bC) false f i37.ok i4.ok) ?_;refine goA (m_mkE (c:=iC) 0 g i28.ok i3.ok) ?_;refine au ?_;refine cT [] [(0,λb=>.ptr 0 0 0),(1,λb=>.ptr 3 0 0)] [0,1] [] [(2,λb=>aO 1 (b.map iC)),(3,λb=>bO 3 [DN,.own 1 0 (List.replicate (Int.toNat 32) false).length,.own 2 0 b.length])] 4 (λj=>?_) λb=>?_;refine ar ?_;refine lP [8] [(0,λa=>.ptr 0 0 0),(1,λa=>.ptr 3 0 0),(9,λa=>DI a.2)] [0,1] [] [(2,λa=>aO 1 (a.1.map iC)),(3,λa=>bO 3 [DN,.own 1 0 (List.replicate (Int.toNat 32) false).length,.own 2 0 a.1.length])] 4 λa l e=>?_;refine ar (sq λK k=>?_);refine xs (λh=>?_) λh=>?_;refine ca (sq λK k=>?_);refine ar (xa λi d=>?_);refine ar ?_;refine goA (Z4 (c:=iC) d.h (-1) i3.ok) ?_;refine au ?_;refine ar ?_;exact wJ [];refine cb (xo e ?_);exact wJ [];refine ar ?_;refine xx (Qi 0 0 2 Od rfl rfl) ?_;exact fw [(0,4),(1,1),(2,2)]
def QaZ(a:Qc):Option (Bool×Qc) := some ((decide (a.pos<(a.l.length:Int)),a))
theorem Qd1{a r}:Sm (QaZ a) r->DCall Tryz.prog 74 [.ptr 0 0 0] [(0,bO 2 [.sl (a.l.map iC),DI a.pos])] (DB r.1) [(0,bO 2 [.sl (r.2.l.map iC),DI r.2.pos])]:=by unfold QaZ;refine mk0 Tryz.func74 ?_;refine ar ?_;refine ar ?_;exact ft r1
def Qu(b:Hp)(a:Int):Option (Hp×Ans) := some ((b,Ans.mk a 0))
theorem Qs{a b r}:Sm (Qu a b) r->DCall Tryz.prog 103 [.agg (hRx a),DI b] [] (.tup [.agg (hRx r.1),.agg [DI r.2.err,DU r.2.value]]) []:=by unfold Qu;refine mk0 Tryz.func103 ?_;refine ar ?_;refine ar ?_;exact fww r0
def X2(a:Int)(b:Int):Option (Int×Int) := if a<0 then(some ((0,13))) else if 15<a then(some ((0,13))) else if b<0 then(some ((0,13))) else if 32<b then(some ((0,13))) else some ((wu (w64 ((w64 ((w64 ((w64 (1+a))+b))*256))+(w64 (a*2)))),0))
theorem Qbp{b a r}:Sm (X2 b a) r->DCall Tryz.prog 132 [DI b,DI a] [] (.tup [DU r.1,DI r.2]) []:=by unfold X2;refine mk0 Tryz.func132 ?_;refine ar (sq λK k=>?_);refine xs (λc=>?_) λc=>?_;refine ar ?_;refine da ?_;exact ftt r0;refine xs (λd=>?_) λd=>?_;refine ar ?_;refine da ?_;exact ftt r0;refine xs (λe=>?_) λe=>?_;refine ar ?_;refine da ?_;exact ftt r0;refine ar (xs (λf=>?_) λf=>?_);refine da ?_;exact ftt r0;refine db ?_;exact ftt r0
def Xd(c:Rts):Option (List Int) := (Qf (λ(a:List Int×Int) => if a.2<(c.used.length:Int) then((at_ c.used a.2).bind λb => if b=true then(if ((a.1.length:Int)+[w64 (a.2+1)].length)*8<=140737488355328/\(a.1.length:Int)+[w64 (a.2+1)].length<=9223372036854775807 then some (.go ((a.1++[w64 (a.2+1)],w64 (a.2+1)))) else none) else some (.go ((a.1,w64 (a.2+1))))) else some (.out (a.1))) (([]:List Int),0)).bind λ(d:List Int) => some (d)
theorem Qad{g r}:Sm (Xd g) r->DCall Tryz.prog 45 [.agg [.sl (g.used.map bC),.sl (g.refs.map uC)]] [] (.own 0 0 r.length) [(0,aO 1 (r.map iC))]:=by unfold Xd;refine mk0 Tryz.func45 ?_;refine ar ?_;refine ar ?_;refine cT [] [(3,λb=>.own 1 0 b.length)] [] [] [(1,λb=>aO 1 (b.map iC))] 2 (λl=>?_) λb=>?_;refine ar ?_;refine xx (QF 3 1 Od rfl) ?_;refine lP [7,8] [(3,λa=>.own 1 0 a.1.length),(9,λa=>DI a.2)] [] [] [(1,λa=>aO 1 (a.1.map iC))] 2 λa m d=>?_;refine ar (sq λK k=>?_);refine xs (λi=>?_) λi=>?_;refine ca (sq λK k=>?_);refine au (xa λj h=>?_);refine ar ?_;refine ar (xs (λe=>?_) λe=>?_);refine ca (xc λf=>?_);refine ar ?_;refine goA (Qj (c:=iC) ([w64 (a.2+1)]:List Int) i28.ok i3.ok) ?_;refine goA (Q3 (c:=iC) a.1 [w64 (a.2+1)] f i28.ok i3.ok rfl rfl (.own rfl rfl Os (Qg (c:=iC) (λ_=>rfl) _)) rfl) ?_;refine au ?_;refine ar ?_;exact wJ [(1,3)];refine db ?_;exact wJ [];refine cb (xo d ?_);exact wJ [];refine ar ?_;exact ft [(0,1)]
def Jj(a:List Int):Option (List Int) := if (a.length:Int)*8<=140737488355328/\(a.length:Int)<=9223372036854775807 then some (a) else none
theorem QfO{a r}:Sm (Jj a) r->DCall Tryz.prog 46 [.sl (a.map uC)] [] (.own 0 0 r.length) [(0,aO 1 (r.map uC))]:=by unfold Jj;refine mk0 Tryz.func46 ?_;refine ar (xc λb=>?_);refine ar ?_;refine goA (Qco (c:=uC) a b i22.ok i80.ok rfl (.sl rfl (Qg (c:=uC) (λ_=>rfl) _))) ?_;refine au ?_;exact ft r1
def Zc(c:List (List Inc)):Option (List (List Inc)) := (Qf (λ(a:List (List Inc)×Int) => if a.2<(c.length:Int) then((at_ c a.2).bind λb => if (b.length:Int)*40<=140737488355328/\(b.length:Int)<=9223372036854775807 then if ((a.1.length:Int)+1)*24<=140737488355328/\(a.1.length:Int)+1<=9223372036854775807 then some (.go ((a.1++[b],w64 (a.2+1)))) else none else none) else some (.out (a.1))) (([]:List (List Inc)),0)).bind λ(d:List (List Inc)) => some (d)
theorem Xc{l r}:Sm (Zc l) r->DCall Tryz.prog 138 [.sl (l.map (lC Inc.c))] [] (.own 0 0 r.length) [(0,⟨1,false,false,r.map (lD 5 Inc.c)⟩)]:=by
 unfold Zc;refine mk0 Tryz.func138 ?_;refine ar ?_;refine ar ?_;refine cT [] [(3,λd=>.own 0 0 d.length)] [] [] [(0,λd=>⟨1,false,false,d.map (lD 5 Inc.c)⟩)] 1 (λn=>?_) λd=>?_;refine ar ?_;refine xx (QF 3 1 Od rfl) ?_;refine xx (Qq (QcS (cd:=(lD 5 Inc.c)) (s:=0) rfl)) ?_;refine lP [6,7] [(3,λb=>.own 0 0 b.1.length),(8,λb=>DI b.2)] [] [] [(0,λb=>⟨1,false,false,b.1.map (lD 5 Inc.c)⟩)] 1 λb o f=>?_;refine ar (sq λK k=>?_);refine xs (λm=>?_) λm=>?_;refine ca (sq λK k=>?_);refine au (xa λa i=>?_);refine ar (xc λg=>?_);refine xc λh=>?_;refine ar ?_;refine goA (Qco (c:=Inc.c) a g i27.ok i69.ok rfl (.sl rfl (Qg (c:=Inc.c) (λ_=>rfl) _))) ?_;refine goA (m_litD [[.own 1 0 a.length]] i36.ok i27.ok) ?_;refine goA (m_apD (cd:=(lD 5 Inc.c)) b.1 a [.own 1 0 a.length] h i36.ok i27.ok rfl rfl (by first | rfl | omega | (simp;done) | (simp;omega)) rfl rfl rfl) ?_;refine au ?_;refine ar ?_;intro H;have e:=se H;subst e;exact ⟨_,rfl,ZB.trans (attL (s:=3) (t:=1) (j:=0) (c:=Inc.c) [.dp 5 (a.map Inc.c)] rfl rfl rfl rfl rfl rfl) (ZB.trans (tellL (s:=3) a rfl rfl) (wkJ [(0,3)]))⟩;refine cb (xo f ?_);exact wJ [];refine ar ?_;exact ft r1
def Xf(c:List Qe):Option (List Qe) := (Qf (λ(b:List Qe×Int) => if b.2<(c.length:Int) then((at_ c b.2).bind λa => if (a.slots.length:Int)*8<=140737488355328/\(a.slots.length:Int)<=9223372036854775807 then if ((b.1.length:Int)+[a].length)*40<=140737488355328/\(b.1.length:Int)+[a].length<=9223372036854775807 then some (.go ((b.1++[a],w64 (b.2+1)))) else none else none) else some (.out (b.1))) (([]:List Qe),0)).bind λ(d:List Qe) => some (d)
theorem Qag{i r}:Sm (Xf i) r->DCall Tryz.prog 97 [.sl (i.map Qe.c)] [] (.own 0 0 r.length) [(0,aO 3 (r.map Qe.c))]:=by unfold Xf;refine mk0 Tryz.func97 ?_;refine ar ?_;refine ar ?_;refine cT [] [(3,λd=>.own 0 0 d.length)] [] [] [(0,λd=>aO 3 (d.map Qe.c))] 1 (λl=>?_) λd=>?_;refine ar ?_;refine xx (QF 3 3 Od rfl) ?_;refine lP [6,7] [(3,λb=>.own 0 0 b.1.length),(8,λb=>DI b.2)] [] [] [(0,λb=>aO 3 (b.1.map Qe.c))] 1 λb m e=>?_;refine ar (sq λK k=>?_);refine xs (λj=>?_) λj=>?_;refine ca (sq λK k=>?_);refine au (xa λa h=>?_);refine ar (xc λf=>?_);refine xc λg=>?_;refine ar ?_;refine goA (Qco (c:=iC) a.slots f i28.ok i3.ok rfl (.sl rfl (Qg (c:=iC) (λ_=>rfl) _))) ?_;refine au ?_;refine goA (m_litP (c:=Qe.c) ([a]:List Qe) i26.ok i62.ok rfl rfl rfl rfl Od Od Od rfl (pu_lit (pu_lit (pu_own (c:=iC) (ys:=a.slots) rfl pu_nil))) rfl rfl) ?_;refine goA (Q3 (c:=Qe.c) b.1 [a] g i26.ok i62.ok rfl rfl (.own rfl rfl Os (Qg (c:=Qe.c) (λ_=>rfl) _)) rfl) ?_;refine au ?_;refine ar ?_;exact wJ [(0,4)];refine cb (xo e ?_);exact wJ [];refine ar ?_;exact ft r1
def Xe(a:Rts):Option Rts := if (a.used.length:Int)*1<=140737488355328/\(a.used.length:Int)<=9223372036854775807 then if (a.refs.length:Int)*8<=140737488355328/\(a.refs.length:Int)<=9223372036854775807 then some (a) else none else none
theorem Qae{a r}:Sm (Xe a) r->DCall Tryz.prog 139 [.agg [.sl (a.used.map bC),.sl (a.refs.map uC)]] [] (.agg [.own 0 0 r.used.length,.own 1 0 r.refs.length]) [(0,aO 1 (r.used.map bC)),(1,aO 1 (r.refs.map uC))]:=by unfold Xe;refine mk0 Tryz.func139 ?_;refine ar (xc λb=>?_);refine xc λd=>?_;refine ar ?_;refine goA (Qco (c:=bC) a.used b i37.ok i4.ok rfl (.sl rfl (Qg (c:=bC) (λ_=>rfl) _))) ?_;refine au ?_;refine goA (Qco (c:=uC) a.refs d i22.ok i80.ok rfl (.sl rfl (Qg (c:=uC) (λ_=>rfl) _))) ?_;refine au ?_;exact fw [(0,2),(1,3)]
def QX(c:List (List Inc))(b:Int):Option (Inc×Bool) := if b<0 then(some ((Inc.mk 0 0 0 0 0,false))) else if (c.length:Int)<=b then(some ((Inc.mk 0 0 0 0 0,false))) else(at_ c b).bind λa => if (a.length:Int)=0 then(some ((Inc.mk 0 0 0 0 0,false))) else(at_ a (w64 ((a.length:Int)-1))).bind λd => some ((d,true))
theorem Xk{b a r}:Sm (QX b a) r->DCall Tryz.prog 163 [.sl (b.map (lC Inc.c)),DI a] [] (.tup [.agg (nR r.1),DB r.2]) []:=by unfold QX;refine mk0 Tryz.func163 ?_;refine ar (sq λK k=>?_);refine xs (λc=>?_) λc=>?_;refine ar ?_;refine da ?_;exact fwt r0;refine xs (λd=>?_) λd=>?_;refine ar ?_;refine da ?_;exact fwt r0;refine xa λh e=>?_;refine ar (xs (λf=>?_) λf=>?_);refine da ?_;exact fwt r0;refine cb (xa λi g=>?_);refine ar ?_;exact fwt r0
def JU(b:Int)(a:Int):Option Int := if b<0 then(some (0)) else if 1099511627776<b then(some (0)) else if a<0 then(some (0)) else if 20<a then(some (0)) else if 0<=wu a then some (QbV .i64 (w64 ((w64 (b+(Qbv .i64 1 (wu a))))-1)) (wu a)) else none
theorem Qdi{b a r}:Sm (JU b a) r->DCall Tryz.prog 145 [DI b,DI a] [] (DI r) []:=by unfold JU;refine mk0 Tryz.func145 ?_;refine ar (sq λK k=>?_);refine xs (λc=>?_) λc=>?_;refine ar ?_;refine da ?_;exact ft r0;refine xs (λd=>?_) λd=>?_;refine ar ?_;refine da ?_;exact ft r0;refine xs (λe=>?_) λe=>?_;refine ar ?_;refine da ?_;exact ft r0;refine ar (xs (λf=>?_) λf=>?_);refine da ?_;exact ft r0;refine cb (xc λg=>?_);refine ar ?_;exact ft r0
def ZT(c:Sp):Option (List Int) := (Qf (λ(a:List Int×Int) => if a.2<(c.fs.length:Int) then((at_ c.fs a.2).bind λb => if b.ow=(-1) then(if ((a.1.length:Int)+[a.2].length)*8<=140737488355328/\(a.1.length:Int)+[a.2].length<=9223372036854775807 then some (.go ((a.1++[a.2],w64 (a.2+1)))) else none) else some (.go ((a.1,w64 (a.2+1))))) else some (.out (a.1))) (([]:List Int),0)).bind λ(d:List Int) => some (d)
theorem X4{d r}:Sm (ZT d) r->DCall Tryz.prog 122 [.agg (sR d)] [] (.own 0 0 r.length) [(0,aO 1 (r.map iC))]:=by unfold ZT;refine mk0 Tryz.func122 ?_;refine ar ?_;refine ar ?_;refine cT [] [(3,λb=>.own 1 0 b.length)] [] [] [(1,λb=>aO 1 (b.map iC))] 2 (λl=>?_) λb=>?_;refine ar ?_;refine xx (QF 3 1 Od rfl) ?_;refine lP [7,8] [(3,λa=>.own 1 0 a.1.length),(9,λa=>DI a.2)] [] [] [(1,λa=>aO 1 (a.1.map iC))] 2 λa m e=>?_;refine ar (sq λK k=>?_);refine xs (λi=>?_) λi=>?_;refine ca (sq λK k=>?_);refine au (xa λj h=>?_);refine ar ?_;refine ar (xs (λf=>?_) λf=>?_);refine ca (xc λg=>?_);refine ar ?_;refine goA (Qj (c:=iC) ([a.2]:List Int) i28.ok i3.ok) ?_;refine goA (Q3 (c:=iC) a.1 [a.2] g i28.ok i3.ok rfl rfl (.own rfl rfl Os (Qg (c:=iC) (λ_=>rfl) _)) rfl) ?_;refine au ?_;refine ar ?_;exact wJ [(1,4)];refine db ?_;exact wJ [];refine cb (xo e ?_);exact wJ [];refine ar ?_;exact ft [(0,1)]
end Go.Proofs.YthadnbdbfpggdaaGreatDoor
