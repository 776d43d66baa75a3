/- Parts of the proof. No condition. -/
import Derived.Test.YthadnbdbfpggdaaGreatDoorQO0
import Derived.Test.YthadnbdbfpggdaaGreatDoorQO1
import Derived.Test.YthadnbdbfpggdaaGreatDoorQO2
import Derived.Test.YthadnbdbfpggdaaGreatDoorQO3
import Derived.Test.YthadnbdbfpggdaaGreatDoorQO4
import Derived.Test.YthadnbdbfpggdaaGreatDoorQO5
import Derived.Test.YthadnbdbfpggdaaGreatDoorQO6
import Derived.Test.YthadnbdbfpggdaaGreatDoorQO7
import Derived.Test.YthadnbdbfpggdaaGreatDoorQO8
import Derived.Test.YthadnbdbfpggdaaGreatDoorQO9
import Derived.Test.YthadnbdbfpggdaaGreatDoorQO10
import Derived.Test.YthadnbdbfpggdaaGreatDoorQO11
import Derived.Test.YthadnbdbfpggdaaGreatDoorQO12
import Derived.Test.YthadnbdbfpggdaaGreatDoorQO13
import Derived.Test.YthadnbdbfpggdaaGreatDoorQO14
import Derived.Test.YthadnbdbfpggdaaGreatDoorQN1
import Derived.Laws.AppendOwn
import Derived.Laws.CopyRow
import Derived.Test.YthadnbdbfpggdaaGreatDoorRows
import Derived.Maps.AppendAt
import Derived.Deep.QuietTactic
import Derived.BigQuiet
import Derived.Shelf.Spec.SlicesInsertGrow
import Derived.KernelRfl
import Derived.Laws.StructEq
import Derived.Laws.OwnMore
import Derived.Laws.MakeOwn
import Derived.Great.BuildSlice
import Derived.WalkKit
import Derived.WalkSpells
import Derived.WalkLawsBesides
import Derived.Lib.Hide
import Derived.Orders
import Derived.RegionTactic
import Derived.Deep.RegionHeld
import Derived.IntWalk
import Derived.Test.YthadnbdbfpggdaaGreatDoorChecked
noncomputable section
namespace Go.Proofs.YthadnbdbfpggdaaGreatDoor
open Go.RowKit
set_option linter.unusedSimpArgs false
set_option linter.unusedVariables false
set_option maxRecDepth 20000
set_option maxHeartbeats 40000000
def QgO(a:Int):Option Bool := if 0<=a then(some (decide (a<64))) else some (false)
theorem QgM{a r}:Sm (QgO a) r->DCall Tryz.prog 38 [DI a] [] (DB r) []:=by unfold QgO;refine mk0 Tryz.func38 ?_;refine ar ?_;refine xs (λb=>?_) λb=>?_;refine ar ?_;exact ft r0;refine ar ?_;exact ft r0
def QgP(o:List Qe):Option Bool := bndR (Qg (λ(d:Int) => if d<(o.length:Int) then(bndR ((at_ o d).bind λa =>(QgO a.frm).bind λe => if e=true then((QgO a.to).bind λf => if f=true then(if 0<d then((at_ o (w64 (d-1))).bind λg =>(Xq g a).bind λh => if h=true then(if (a.slots.length:Int)=0 then(some (.inr (.out (.inr (false))))) else(at_ a.slots 0).bind λi => if i<0 then(some (.inr (.out (.inr (false))))) else Qg (λ(b:Int) => if b<(a.slots.length:Int) then((at_ a.slots (w64 (b-1))).bind λj =>(at_ a.slots b).bind λk => if k<=j then(some (.out (.inr (.out (.inr (false)))))) else some (.go (w64 (b+1)))) else some (.out (.inl (())))) 1) else some (.inr (.out (.inr (false))))) else if (a.slots.length:Int)=0 then(some (.inr (.out (.inr (false))))) else(at_ a.slots 0).bind λl => if l<0 then(some (.inr (.out (.inr (false))))) else Qg (λ(c:Int) => if c<(a.slots.length:Int) then((at_ a.slots (w64 (c-1))).bind λm =>(at_ a.slots c).bind λn => if n<=m then(some (.out (.inr (.out (.inr (false)))))) else some (.go (w64 (c+1)))) else some (.out (.inl (())))) 1) else some (.inr (.out (.inr (false))))) else some (.inr (.out (.inr (false))))) λ(p:Unit) =>
 some (.go (w64 (d+1)))) else some (.out (.inl (())))) 0) λ(q:Unit) => some (true)
theorem QgS{H r}:Sm (QgP H) r->DCall Tryz.prog 16 [.sl (H.map Qe.c)] [] (DB r) []:=by
 unfold QgP;refine mk0 Tryz.func16 ?_;refine ar ?_;refine cU [] [] [] [] [] 0 (λY d=>?_) λZ=>?_;refine ar ?_;refine lP [0,6,7] [(8,λy=>DI y)] [] [] [] 0 λy y5 b=>?_;refine ar ?_;refine sq λK k=>?_;refine xs (λI=>?_) λI=>?_;refine ca ?_;refine cU [0,6,7,8] [] [] [] [] 0 (λz9 e=>?_) λb8=>?_;refine au ?_;refine xa λJ z=>?_;refine ar ?_;refine sq λK k=>?_;refine xd λL a=>?_;refine xs (λf=>?_) λf=>?_;refine xd λM c=>?_;refine xs (λn=>?_) λn=>?_;refine xs (λh=>?_) λh=>?_;refine xa λN A=>?_;refine xd λO g=>?_;refine xs (λo=>?_) λo=>?_;refine xs (λp=>?_) λp=>?_;refine ar ?_;refine goA (QaU r0 (QgM a) rfl ScS.nil) ?_;refine au ?_;refine go (QaU r0 (QgM c) rfl ScS.nil) ?_ (gY (congrArg not f));refine au ?_;refine go (QaU r0 (QbP g) rfl ScS.nil) ?_ (gY (decide_eq_true h));refine au ?_;refine da ?_;refine xr e ?_;refine xo b ?_;refine xr d ?_;exact ft r0;refine xa λP B=>?_;refine ar ?_;refine goA (QaU r0 (QgM a) rfl ScS.nil) ?_;refine au ?_;refine go (QaU r0 (QgM c) rfl ScS.nil) ?_ (gY (congrArg not f));refine au ?_;refine go (QaU r0 (QbP g) rfl ScS.nil) ?_ (gY (decide_eq_true h));refine au ?_;refine xs (λq=>?_) λq=>?_;refine da ?_;refine xr e ?_;refine xo b ?_;refine xr d ?_;exact ft r0
 refine db ?_;refine lP [0,6,7,8] [(4,λl=>.ptr 0 0 0),(5,λl=>DI l)] [0] [] [] 1 λl Q i=>?_;refine sq λK k=>?_;refine ar ?_;refine xs (λs=>?_) λs=>?_;refine ca ?_;refine sq λK k=>?_;refine au ?_;refine xa λR C=>?_;refine xa λS D=>?_;refine ar ?_;refine xs (λt=>?_) λt=>?_;refine da ?_;refine xo i ?_;refine xr e ?_;refine xo b ?_;refine xr d ?_;exact ft r0;refine db ?_;exact wJ [];refine cb ?_;refine xo i ?_;exact wJ [];refine ar ?_;refine goA (QaU r0 (QgM a) rfl ScS.nil) ?_;refine au ?_;refine go (QaU r0 (QgM c) rfl ScS.nil) ?_ (gY (congrArg not f));refine au ?_;refine go (QaU r0 (QbP g) rfl ScS.nil) ?_ (gY (decide_eq_true h));refine au ?_;refine da ?_;refine xr e ?_;refine xo b ?_;refine xr d ?_;exact ft r0;refine xs (λu=>?_) λu=>?_;refine ar ?_;refine goA (QaU r0 (QgM a) rfl ScS.nil) ?_;refine au ?_;refine go (QaU r0 (QgM c) rfl ScS.nil) ?_ (gY (congrArg not f));refine au ?_;refine da ?_;refine xr e ?_;refine xo b ?_;refine xr d ?_;exact ft r0;refine xa λT E=>?_;refine ar ?_;refine goA (QaU r0 (QgM a) rfl ScS.nil) ?_;refine au ?_;refine go (QaU r0 (QgM c) rfl ScS.nil) ?_ (gY (congrArg not f));refine au ?_;refine xs (λv=>?_) λv=>?_;refine da ?_;refine xr e ?_;refine xo b ?_
 refine xr d ?_;exact ft r0;refine db ?_;refine lP [0,6,7,8] [(4,λm=>.ptr 0 0 0),(5,λm=>DI m)] [0] [] [] 1 λm U j=>?_;refine sq λK k=>?_;refine ar ?_;refine xs (λw=>?_) λw=>?_;refine ca ?_;refine sq λK k=>?_;refine au ?_;refine xa λV F=>?_;refine xa λW G=>?_;refine ar ?_;refine xs (λx=>?_) λx=>?_;refine da ?_;refine xo j ?_;refine xr e ?_;refine xo b ?_;refine xr d ?_;exact ft r0;refine db ?_;exact wJ [];refine cb ?_;refine xo j ?_;exact wJ [];refine ar ?_;refine goA (QaU r0 (QgM a) rfl ScS.nil) ?_;refine au ?_;refine go (QaU r0 (QgM c) rfl ScS.nil) ?_ (gY (congrArg not f));refine au ?_;refine da ?_;refine xr e ?_;refine xo b ?_;refine xr d ?_;exact ft r0;have X:=cS r0 (QgM a);refine ar ?_;refine da ?_;refine xr e ?_;refine xo b ?_;refine xr d ?_;exact ft r0;refine ar ?_;exact wJ [];refine cb ?_;refine xo b ?_;exact wJ [];refine ar ?_;exact ft r0
def QgN(l:List Int):Option Bool := (Qc9 l).bind λi =>(Jg i).bind λa =>(Zq a.2.2.2.1 a.1.sets a.2.1 a.2.2.1 a.2.2.2.2.1).bind λg => if g.2=0 then((QgP g.1).bind λj => if j=true then(bndR ((ZR a.2.2.2.1 a.2.1).bind λd => Qg (λ(b:Int) => if b<(d.length:Int) then(bndR ((at_ d b).bind λe => Qg (λ(c:Int) => if c<(g.1.length:Int) then((at_ g.1 c).bind λf => if f.frm=e then(some (.out (.inr (.out (.inr (false)))))) else if f.to=e then(some (.out (.inr (.out (.inr (false)))))) else some (.go (w64 (c+1)))) else some (.out (.inl (())))) 0) λ(k:Unit) => some (.go (w64 (b+1)))) else some (.out (.inl (())))) 0) λ(m:Unit) =>(J3).bind λh => some (h)) else some (false)) else some (false)
theorem QgQ{w r}:Sm (QgN w) r->DCall Tryz.prog 5 [.sl (w.map iC)] [] (DB r) []:=by
 unfold QgN;refine mk0 Tryz.func5 ?_;refine ar ?_;refine xd λH j=>?_;refine xd λI l=>?_;have i:=cG r0 (F_make_New_ok j);have G:=cG r1 (QeG l);refine ar ?_;refine xd λJ m=>?_;replace i:=cG r0 (Qag m);refine ar ?_;refine sq λK k=>?_;refine xs (λx=>?_) λx=>?_;refine xd λL n=>?_;replace i:=cS r0 (QgS n);refine ar ?_;refine xs (λy=>?_) λy=>?_;refine cb ?_;refine cU [] [] [] [] [] 0 (λM e=>?_) λN=>?_;refine xd λo f=>?_;replace i:=cS r0 (QbM f);refine ar ?_;refine lP [8,43] [(42,λd=>.own 5 0 o.length),(44,λd=>DI d)] [5] [] [] 6 λd z a=>?_;refine ar ?_;refine sq λK k=>?_;refine xs (λp=>?_) λp=>?_;refine ca ?_;refine cU [8,42,43,44] [] [5] [] [] 6 (λA c=>?_) λB=>?_;refine au ?_;refine xa λC u=>?_;refine ar ?_;refine ar ?_;refine lP [8,11,42,43,44,48,49] [(50,λg=>DI g)] [5] [] [] 6 λg D b=>?_;refine ar ?_;refine sq λK k=>?_;refine xs (λq=>?_) λq=>?_;refine ca ?_;refine sq λK k=>?_;refine au ?_;refine xa λE v=>?_;refine ar ?_;refine xs (λs=>?_) λs=>?_;refine ar ?_;refine da ?_;refine xo b ?_;refine xr c ?_;refine xo a ?_;refine xr e ?_;exact ft r0;refine ar ?_;refine xs (λt=>?_) λt=>?_;refine da ?_;refine xo b ?_;refine xr c ?_;refine xo a ?_;refine xr e ?_;exact ft r0;refine db ?_;exact wJ []
 refine cb ?_;refine xo b ?_;exact wJ [];refine ar ?_;exact wJ [];refine cb ?_;refine xo a ?_;exact wJ [];refine xd λF h=>?_;replace i:=cS r0 (Qfg h);refine ar ?_;exact ft r0;refine da ?_;exact ft r0;refine ar ?_;refine da ?_;exact ft r0
end Go.Proofs.YthadnbdbfpggdaaGreatDoor
