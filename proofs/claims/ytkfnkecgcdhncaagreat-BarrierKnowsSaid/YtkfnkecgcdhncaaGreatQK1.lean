/- Parts of the proof. No condition. -/
import Derived.Test.YtkfnkecgcdhncaaGreatQM0
import Derived.Test.YtkfnkecgcdhncaaGreatQM1
import Derived.Test.YtkfnkecgcdhncaaGreatQM2
import Derived.Test.YtkfnkecgcdhncaaGreatQM3
import Derived.Test.YtkfnkecgcdhncaaGreatQM4
import Derived.Test.YtkfnkecgcdhncaaGreatQM5
import Derived.Test.YtkfnkecgcdhncaaGreatQM6
import Derived.Test.YtkfnkecgcdhncaaGreatQM7
import Derived.Test.YtkfnkecgcdhncaaGreatQM8
import Derived.Test.YtkfnkecgcdhncaaGreatQM9
import Derived.Test.YtkfnkecgcdhncaaGreatQM10
import Derived.Test.YtkfnkecgcdhncaaGreatQM11
import Derived.Test.YtkfnkecgcdhncaaGreatQM12
import Derived.Test.YtkfnkecgcdhncaaGreatQM13
import Derived.Test.YtkfnkecgcdhncaaGreatQM14
import Derived.Test.YtkfnkecgcdhncaaGreatQM15
import Derived.Test.YtkfnkecgcdhncaaGreatQM16
import Derived.Test.YtkfnkecgcdhncaaGreatQM17
import Derived.Test.YtkfnkecgcdhncaaGreatQM18
import Derived.Test.YtkfnkecgcdhncaaGreatQM19
import Derived.Test.YtkfnkecgcdhncaaGreatQM20
import Derived.Test.YtkfnkecgcdhncaaGreatQM21
import Derived.Test.YtkfnkecgcdhncaaGreatQM22
import Derived.Test.YtkfnkecgcdhncaaGreatQM23
import Derived.Test.YtkfnkecgcdhncaaGreatQM24
import Derived.Test.YtkfnkecgcdhncaaGreatQM25
import Derived.Test.YtkfnkecgcdhncaaGreatQM26
import Derived.Test.YtkfnkecgcdhncaaGreatQM27
import Derived.Laws.AppendOwn
import Derived.Laws.CopyRow
import Derived.Test.YtkfnkecgcdhncaaGreatRows
import Derived.Maps.AppendAt
import Derived.Deep.QuietTactic
import Derived.BigQuiet
import Derived.Shelf.Spec.SlicesInsertGrow
import Derived.KernelRfl
import Derived.Laws.StructEq
import Derived.Laws.OwnMore
import Derived.Laws.MakeOwn
import Derived.Great.BuildSlice
import Derived.WalkKit
import Derived.WalkSpells
import Derived.WalkLawsBesides
import Derived.Lib.Hide
import Derived.Orders
import Derived.RegionTactic
import Derived.Deep.RegionHeld
import Derived.IntWalk
import Derived.Test.YtkfnkecgcdhncaaGreatChecked
import Derived.Laws.Externs
import Derived.Shelf.Sort.Plain
import Derived.Shelf.Slices.In.SortNone
import Derived.Shelf.Slices.Cells
noncomputable section
namespace Go.Proofs.YtkfnkecgcdhncaaGreat
open Go.RowKit
set_option linter.unusedSimpArgs false
set_option linter.unusedVariables false
set_option maxRecDepth 20000
set_option maxHeartbeats 40000000
def QgO(B:List Int)(C:Int):Option Bool := (Qc5 B).bind λz =>(Qa4 z).bind λe =>(Qae e.1.belts).bind λk =>(QaQ C (w64 ((k.length:Int)+1))).bind λl => bndR (Qh (λ(c:List Qe×List Qa7×Int) => if c.2.2<(k.length:Int) then(bndR ((at_ k c.2.2).bind λs =>(Qaf e.1.space s).bind λm => Qh (λ(f:List Qe×List Qa7×Int) => if f.2.2<(m.1.length:Int) then(bndR ((at_ m.1 f.2.2).bind λt =>(QY e.1.space t).bind λn => Qh (λ(a:List Qe×List Qa7×Int) => if a.2.2<(n.1.length:Int) then(bndR ((at_ n.1 a.2.2).bind λd =>(at_ e.1.space.ws d).bind λg =>(Xf e.1.space a.1 d g).bind λh => if h.2=0 then(if g=0 then(some (.inl ((h.1,a.2.1)))) else if c.2.2<l then(some (.inl ((h.1,a.2.1)))) else if 0<=wu e.1.space.sh then if (0:Int)<=0/\0<=l/\l<=k.length then Qh (λ(b:List Qa7×Int) => if b.2<(((k.take (Int.toNat l)).drop (Int.toNat 0)).length:Int) then((at_ ((k.take (Int.toNat l)).drop (Int.toNat 0)) b.2).bind λu =>(at_ e.1.space.fs (QbO .i64 (w64 (wu (g-1))) (wu e.1.space.sh))).bind λv => if v.ow=u.seq then
 (if ((b.1.length:Int)+[Qa7.mk d (QbO .i64 d (wu e.1.space.sh)) (QbO .i64 (w64 (wu (g-1))) (wu e.1.space.sh))].length)*24<=140737488355328/\(b.1.length:Int)+[Qa7.mk d (QbO .i64 d (wu e.1.space.sh)) (QbO .i64 (w64 (wu (g-1))) (wu e.1.space.sh))].length<=9223372036854775807 then some (.go ((b.1++[Qa7.mk d (QbO .i64 d (wu e.1.space.sh)) (QbO .i64 (w64 (wu (g-1))) (wu e.1.space.sh))],w64 (b.2+1)))) else none) else some (.go ((b.1,w64 (b.2+1))))) else some (.out (.inl ((h.1,b.1))))) (a.2.1,0) else none else none) else some (.inr (.out (.inr (.out (.inr (.out (.inr (false))))))))) λ(o:List Qe×List Qa7) => some (.go ((o.1,o.2,w64 (a.2.2+1))))) else some (.out (.inl ((a.1,a.2.1))))) (f.1,f.2.1,0)) λ(p:List Qe×List Qa7) => some (.go ((p.1,p.2,w64 (f.2.2+1))))) else some (.out (.inl ((f.1,f.2.1))))) (c.1,c.2.1,0)) λ(q:List Qe×List Qa7) => some (.go ((q.1,q.2,w64 (c.2.2+1))))) else some (.out (.inl ((c.1,c.2.1))))) (([]:List Qe),([]:List Qa7),0)) λ(r:List Qe×List Qa7) => bndR (Qh (λ(i:Int) => if i<(r.2.length:Int) then((at_ r.2 i).bind λj =>(Qa1 r.1 j.frm j.to j.slot).bind λw => if w=true then(some (.go (w64 (i+1)))) else some (.out (.inr (false)))) else
 some (.out (.inl (())))) 0) λ(A:Unit) =>(ZW e.1.space e.1.belts r.1).bind λx => if (x.length:Int)=0 then((JZ).bind λy => some (y)) else some (false)
theorem QgP{p0 p1 r}:Sm (QgO p0 p1) r->DCall Tryz.prog 4 [.sl (p0.map iC),DI p1] [] (DB r) []:=by
 unfold QgO;refine mk0 Tryz.func4 ?_;refine ar ?_;refine xd λv1 H=>?_;refine xd λG I=>?_;have n:=cG r0 (F_make_New_ok H);have q1:=cG r1 (F_make_Heap_ok I);refine ar ?_;refine ar ?_;refine xd λv3 J=>?_;replace n:=cG r0 (QgB J);refine ar ?_;refine xd λv4 L=>?_;replace n:=cS r0 (Qed L);refine ar ?_;refine ar ?_;refine cU [] [(5,λl=>.ptr 1 0 0),(7,λl=>.own 3 0 l.1.length),(10,λl=>.own 4 0 l.2.length)] [1] [] [(3,λl=>aO 3 (l.1.map Qe.c)),(4,λl=>aO 3 (l.2.map Qa7.c))] 5 (λz6 M=>?_) λl=>?_;refine ar ?_;refine xx (Qz 10 3 Od rfl) ?_;refine xx (Qz 7 3 Od rfl) ?_;refine lP [8,9,43,44] [(5,λd=>.ptr 1 0 0),(7,λd=>.own 4 0 d.1.length),(10,λd=>.own 3 0 d.2.1.length),(45,λd=>DI d.2.2)] [1] [] [(3,λd=>aO 3 (d.2.1.map Qa7.c)),(4,λd=>aO 3 (d.1.map Qe.c))] 5 λd ak o=>?_;refine ar ?_;refine sq λK k=>?_;refine xs (λN=>?_) λN=>?_;refine ca ?_;refine cU [5,8,9,43,44,45] [(7,λg=>.own 4 0 g.1.length),(10,λg=>.own 3 0 g.2.length)] [1] [] [(3,λg=>aO 3 (g.2.map Qa7.c)),(4,λg=>aO 3 (g.1.map Qe.c))] 5 (λal v=>?_) λg=>?_;refine au ?_;refine xa λam ad=>?_;refine ar ?_;refine xd λO w=>?_;replace n:=cS r0 (Qdl w);refine ar ?_;refine ar ?_
 refine lP [5,8,9,11,43,44,45,58] [(7,λe=>.own 4 0 e.1.length),(10,λe=>.own 3 0 e.2.1.length),(57,λe=>.own 6 0 O.1.length),(59,λe=>DI e.2.2)] [1,6] [] [(3,λe=>aO 3 (e.2.1.map Qa7.c)),(4,λe=>aO 3 (e.1.map Qe.c))] 7 λe an p=>?_;refine ar ?_;refine sq λK k=>?_;refine xs (λP=>?_) λP=>?_;refine ca ?_;refine cU [5,8,9,11,43,44,45,57,58,59] [(7,λh=>.own 4 0 h.1.length),(10,λh=>.own 3 0 h.2.length)] [1,6] [] [(3,λh=>aO 3 (h.2.map Qa7.c)),(4,λh=>aO 3 (h.1.map Qe.c))] 7 (λao x=>?_) λh=>?_;refine au ?_;refine xa λap ae=>?_;refine ar ?_;refine xd λQ y=>?_;replace n:=cS r0 (Qag y);refine ar ?_;refine ar ?_;refine lP [5,8,9,11,43,44,45,57,58,59,71] [(7,λf=>.own 4 0 f.1.length),(10,λf=>.own 3 0 f.2.1.length),(70,λf=>.own 7 0 Q.1.length),(72,λf=>DI f.2.2)] [1,6,7] [] [(3,λf=>aO 3 (f.2.1.map Qa7.c)),(4,λf=>aO 3 (f.1.map Qe.c))] 8 λf aq q=>?_;refine ar ?_;refine sq λK k=>?_;refine xs (λR=>?_) λR=>?_;refine ca ?_;refine cU [5,8,9,11,43,44,45,57,58,59,70,71,72] [(7,λi=>.own 8 0 i.1.length),(10,λi=>.own 3 0 i.2.length)] [1,6,7] [] [(3,λi=>aO 3 (i.2.map Qa7.c)),(8,λi=>aO 3 (i.1.map Qe.c))] 9 (λav z=>?_) λi=>?_;refine au ?_;refine xa λm af=>?_;refine ar ?_;refine xa λA ag=>?_;refine ar ?_;refine ar ?_
 refine xd λS B=>?_;replace n:=cG r0 (QdF B);refine ar ?_;refine sq λK k=>?_;refine ar ?_;refine xs (λT=>?_) λT=>?_;refine cb ?_;refine sq λK k=>?_;refine xs (λU=>?_) λU=>?_;refine ar ?_;refine ca ?_;exact wJ [];refine ar ?_;refine xs (λV=>?_) λV=>?_;refine ca ?_;exact wJ [];refine cb ?_;refine xc λaw=>?_;refine ar ?_;refine xc λW=>?_;refine ar ?_;refine goA (m_slS (a:=0) (b:=v4) W i52.ok i56.ok (.inl ⟨rfl,rfl⟩) (.inr ⟨_,_,rfl,rfl⟩)) ?_;refine au ?_;refine lP [5,8,9,11,20,23,24,43,44,45,57,58,59,70,71,72,116,117] [(7,λj=>.own 8 0 S.1.length),(10,λj=>.own 3 0 j.1.length),(118,λj=>DI j.2)] [1,6,7,8] [] [(3,λj=>aO 3 (j.1.map Qa7.c))] 9 λj ax C=>?_;refine ar ?_;refine sq λK k=>?_;refine xs (λX=>?_) λX=>?_;refine ca ?_;refine sq λK k=>?_;refine au ?_;refine xa λay ah=>?_;refine ar ?_;refine xa λaz ai=>?_;refine ar ?_;refine xs (λY=>?_) λY=>?_;refine ca ?_;refine xc λZ=>?_;refine ar ?_;refine goA (Ql (c:=Qa7.c) ([Qa7.mk m (QbO .i64 m (wu G.1.space.sh)) (QbO .i64 (w64 (wu (A-1))) (wu G.1.space.sh))]:List Qa7) i54.ok i68.ok) ?_
 refine goA (QW (c:=Qa7.c) j.1 [Qa7.mk m (QbO .i64 m (wu G.1.space.sh)) (QbO .i64 (w64 (wu (A-1))) (wu G.1.space.sh))] Z i54.ok i68.ok rfl rfl (.own rfl rfl Os (Qg (c:=Qa7.c) (λ_=>rfl) _)) rfl) ?_;refine au ?_;refine ar ?_;exact wJ [(3,11)];refine db ?_;exact wJ [];refine cb ?_;refine xo C ?_;exact wJ [];refine da ?_;refine xr z ?_;refine xo q ?_;refine xr x ?_;refine xo p ?_;refine xr v ?_;refine xo o ?_;refine xr M ?_;exact ft r0;refine ar ?_;exact wJ [(4,8)];refine cb ?_;refine xo q ?_;exact wJ [];refine ar ?_;exact wJ [];refine cb ?_;refine xo p ?_;exact wJ [];refine ar ?_;exact wJ [];refine cb ?_;refine xo o ?_;exact wJ [(3,4),(4,3)];refine cU [5,7] [] [1,3] [] [] 4 (λaA D=>?_) λaB=>?_;refine ar ?_;refine lP [5,7,144] [(143,λu=>.own 4 0 l.2.length),(145,λu=>DI u)] [1,3,4] [] [] 5 λu aC s=>?_;refine ar ?_;refine sq λK k=>?_;refine xs (λaa=>?_) λaa=>?_;refine ca ?_;refine sq λK k=>?_;refine au ?_;refine xa λaD aj=>?_;refine ar ?_;refine xd λaE E=>?_;replace n:=cS r0 (F_ref18_Has_ok E);refine ar ?_;refine xs (λab=>?_) λab=>?_;refine db ?_;exact wJ [];refine da ?_;refine xo s ?_;refine xr D ?_;exact ft r0;refine cb ?_;refine xo s ?_;exact wJ [];refine xd λaF t=>?_
 refine xs (λac=>?_) λac=>?_;refine xd λaG F=>?_;replace n:=cS r0 (Qdc t);replace q1:=cS r0 (Qfe F);refine ar ?_;exact ft r0;replace n:=cS r0 (Qdc t);refine ar ?_;exact ft r0
end Go.Proofs.YtkfnkecgcdhncaaGreat
