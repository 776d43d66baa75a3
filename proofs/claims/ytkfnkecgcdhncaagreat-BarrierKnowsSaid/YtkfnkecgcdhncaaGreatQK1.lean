/- Parts of the proof. No condition. -/
import Derived.Test.YtkfnkecgcdhncaaGreatQM0
import Derived.Test.YtkfnkecgcdhncaaGreatQM1
import Derived.Test.YtkfnkecgcdhncaaGreatQM2
import Derived.Test.YtkfnkecgcdhncaaGreatQM3
import Derived.Test.YtkfnkecgcdhncaaGreatQM4
import Derived.Test.YtkfnkecgcdhncaaGreatQM5
import Derived.Test.YtkfnkecgcdhncaaGreatQM6
import Derived.Test.YtkfnkecgcdhncaaGreatQM7
import Derived.Test.YtkfnkecgcdhncaaGreatQM8
import Derived.Test.YtkfnkecgcdhncaaGreatQM9
import Derived.Test.YtkfnkecgcdhncaaGreatQM10
import Derived.Test.YtkfnkecgcdhncaaGreatQM11
import Derived.Test.YtkfnkecgcdhncaaGreatQM12
import Derived.Test.YtkfnkecgcdhncaaGreatQM13
import Derived.Test.YtkfnkecgcdhncaaGreatQM14
import Derived.Laws.AppendOwn
import Derived.Laws.CopyRow
import Derived.Test.YtkfnkecgcdhncaaGreatRows
import Derived.Maps.AppendAt
import Derived.Deep.QuietTactic
import Derived.BigQuiet
import Derived.Shelf.Spec.SlicesInsertGrow
import Derived.KernelRfl
import Derived.Laws.StructEq
import Derived.Laws.OwnMore
import Derived.Laws.MakeOwn
import Derived.Great.BuildSlice
import Derived.WalkKit
import Derived.WalkSpells
import Derived.WalkLawsBesides
import Derived.Lib.Hide
import Derived.Orders
import Derived.RegionTactic
import Derived.Deep.RegionHeld
import Derived.IntWalk
import Derived.Test.YtkfnkecgcdhncaaGreatChecked
import Derived.Laws.Externs
import Derived.Shelf.Sort.Plain
import Derived.Shelf.Slices.In.SortNone
import Derived.Shelf.Slices.Cells
namespace Go.Proofs.YtkfnkecgcdhncaaGreat
open Go.RowKit
set_option linter.unusedSimpArgs false
set_option linter.unusedVariables false
set_option maxRecDepth 20000
set_option maxHeartbeats 40000000
noncomputable def QgO(p0:List Int)(p1:Int):Option Bool :=
 (Qc5 p0).bind λv1 =>
 (Qa3 v1).bind λv2 =>
 (Qad v2.1.belts).bind λv3 =>
 (QaQ p1 (w64 ((v3.length:Int)+1))).bind λv4 =>
 bndR (Qh (λ(s10:List Qe×List Qa6×Int) =>
 if s10.2.2<(v3.length:Int) then
 (bndR ((at_ v3 s10.2.2).bind λv16 =>
 (Qae v2.1.space v16).bind λv17 =>
 Qh (λ(s19:List Qe×List Qa6×Int) =>
 if s19.2.2<(v17.1.length:Int) then
 (bndR ((at_ v17.1 s19.2.2).bind λv25 =>
 (QY v2.1.space v25).bind λv26 =>
 Qh (λ(s28:List Qe×List Qa6×Int) =>
 if s28.2.2<(v26.1.length:Int) then
 (bndR ((at_ v26.1 s28.2.2).bind λv34 =>
 (at_ v2.1.space.ws v34).bind λv35 =>
 (Xf v2.1.space s28.1 v34 v35).bind λv36 =>
 if v36.2=0 then
 (if v35=0 then
 (some (.inl ((v36.1,s28.2.1))))
 else
 if s10.2.2<v4 then
 (some (.inl ((v36.1,s28.2.1))))
 else
 if 0<=wu v2.1.space.sh then
 if (0:Int)<=0/\0<=v4/\v4<=v3.length then
 Qh (λ(s45:List Qa6×Int) =>
 if s45.2<(((v3.take (Int.toNat v4)).drop (Int.toNat 0)).length:Int) then
 ((at_ ((v3.take (Int.toNat v4)).drop (Int.toNat 0)) s45.2).bind λv50 =>
 (at_ v2.1.space.fs (QbO .i64 (w64 (wu (v35-1))) (wu v2.1.space.sh))).bind λv51 =>
 if v51.ow=v50.seq then
 (if ((s45.1.length:Int)+[Qa6.mk v34 (QbO .i64 v34 (wu v2.1.space.sh)) (QbO .i64 (w64 (wu (v35-1))) (wu v2.1.space.sh))].length)*24<=140737488355328/\(s45.1.length:Int)+[Qa6.mk v34 (QbO .i64 v34 (wu v2.1.space.sh)) (QbO .i64 (w64 (wu (v35-1))) (wu v2.1.space.sh))].length<=9223372036854775807 then
 some (.go ((s45.1++[Qa6.mk v34 (QbO .i64 v34 (wu v2.1.space.sh)) (QbO .i64 (w64 (wu (v35-1))) (wu v2.1.space.sh))],w64 (s45.2+1))))
 else none)
 else
 some (.go ((s45.1,w64 (s45.2+1)))))
 else
 some (.out (.inl ((v36.1,s45.1))))) (s28.2.1,0)
 else none
 else none)
 else
 some (.inr (.out (.inr (.out (.inr (.out (.inr (false))))))))) λ(b32:List Qe×List Qa6) =>
 some (.go ((b32.1,b32.2,w64 (s28.2.2+1)))))
 else
 some (.out (.inl ((s28.1,s28.2.1))))) (s19.1,s19.2.1,0)) λ(b23:List Qe×List Qa6) =>
 some (.go ((b23.1,b23.2,w64 (s19.2.2+1)))))
 else
 some (.out (.inl ((s19.1,s19.2.1))))) (s10.1,s10.2.1,0)) λ(b14:List Qe×List Qa6) =>
 some (.go ((b14.1,b14.2,w64 (s10.2.2+1)))))
 else
 some (.out (.inl ((s10.1,s10.2.1))))) (([]:List Qe),([]:List Qa6),0)) λ(b5:List Qe×List Qa6) =>
 bndR (Qh (λ(s57:Int) =>
 if s57<(b5.2.length:Int) then
 ((at_ b5.2 s57).bind λv62 =>
 (Qa0 b5.1 v62.frm v62.to v62.slot).bind λv63 =>
 if v63=true then
 (some (.go (w64 (s57+1))))
 else
 some (.out (.inr (false))))
 else
 some (.out (.inl (())))) 0) λ(b54:Unit) =>
 (ZW v2.1.space v2.1.belts b5.1).bind λv65 =>
 if (v65.length:Int)=0 then
 ((JY).bind λv67 =>
 some (v67))
 else
 some (false)
theorem QgP{p0 p1 r}:Sm (QgO p0 p1) r->DCall Tryz.prog 4 [.sl (p0.map iC),DI p1] [] (DB r) []:=by
 unfold QgO
 &mk0 Tryz.func4 ?_
 &ar ?_
 &xd λv1 hv1=>?_
 &xd λv2 hv2=>?_
 have q0:=cG r0 (F_make_New_ok hv1)
 have q1:=cG r1 (F_make_Heap_ok hv2)
 &ar ?_
 &ar ?_
 &xd λv3 hv3=>?_
 replace q0:=cG r0 (QgB hv3)
 &ar ?_
 &xd λv4 hv4=>?_
 replace q0:=cS r0 (Qed hv4)
 &ar ?_
 &ar ?_
 &cU [] [(5,λb5=>.ptr 1 0 0),(7,λb5=>.own 3 0 b5.1.length),(10,λb5=>.own 4 0 b5.2.length)] [1] [] [(3,λb5=>aO 3 (b5.1.map Qe.c)),(4,λb5=>aO 3 (b5.2.map Qa6.c))] 5 (λz6 hr6=>?_) λb5=>?_
 &ar ?_
 &xx (Qz 10 3 Od rfl) ?_
 &xx (Qz 7 3 Od rfl) ?_
 &lP [8,9,43,44] [(5,λs10=>.ptr 1 0 0),(7,λs10=>.own 4 0 s10.1.length),(10,λs10=>.own 3 0 s10.2.1.length),(45,λs10=>DI s10.2.2)] [1] [] [(3,λs10=>aO 3 (s10.2.1.map Qa6.c)),(4,λs10=>aO 3 (s10.1.map Qe.c))] 5 λs10 y11 hq11=>?_
 &ar ?_
 &sq λK k=>?_
 &xs (λh13=>?_) λh13=>?_
 &ca ?_
 &cU [5,8,9,43,44,45] [(7,λb14=>.own 4 0 b14.1.length),(10,λb14=>.own 3 0 b14.2.length)] [1] [] [(3,λb14=>aO 3 (b14.2.map Qa6.c)),(4,λb14=>aO 3 (b14.1.map Qe.c))] 5 (λz15 hr15=>?_) λb14=>?_
 &au ?_
 &xa λv16 hv16=>?_
 &ar ?_
 &xd λv17 hv17=>?_
 replace q0:=cS r0 (Qdi hv17)
 &ar ?_
 &ar ?_
 &lP [5,8,9,11,43,44,45,58] [(7,λs19=>.own 4 0 s19.1.length),(10,λs19=>.own 3 0 s19.2.1.length),(57,λs19=>.own 6 0 v17.1.length),(59,λs19=>DI s19.2.2)] [1,6] [] [(3,λs19=>aO 3 (s19.2.1.map Qa6.c)),(4,λs19=>aO 3 (s19.1.map Qe.c))] 7 λs19 y20 hq20=>?_
 &ar ?_
 &sq λK k=>?_
 &xs (λh22=>?_) λh22=>?_
 &ca ?_
 &cU [5,8,9,11,43,44,45,57,58,59] [(7,λb23=>.own 4 0 b23.1.length),(10,λb23=>.own 3 0 b23.2.length)] [1,6] [] [(3,λb23=>aO 3 (b23.2.map Qa6.c)),(4,λb23=>aO 3 (b23.1.map Qe.c))] 7 (λz24 hr24=>?_) λb23=>?_
 &au ?_
 &xa λv25 hv25=>?_
 &ar ?_
 &xd λv26 hv26=>?_
 replace q0:=cS r0 (Qaf hv26)
 &ar ?_
 &ar ?_
 &lP [5,8,9,11,43,44,45,57,58,59,71] [(7,λs28=>.own 4 0 s28.1.length),(10,λs28=>.own 3 0 s28.2.1.length),(70,λs28=>.own 7 0 v26.1.length),(72,λs28=>DI s28.2.2)] [1,6,7] [] [(3,λs28=>aO 3 (s28.2.1.map Qa6.c)),(4,λs28=>aO 3 (s28.1.map Qe.c))] 8 λs28 y29 hq29=>?_
 &ar ?_
 &sq λK k=>?_
 &xs (λh31=>?_) λh31=>?_
 &ca ?_
 &cU [5,8,9,11,43,44,45,57,58,59,70,71,72] [(7,λb32=>.own 8 0 b32.1.length),(10,λb32=>.own 3 0 b32.2.length)] [1,6,7] [] [(3,λb32=>aO 3 (b32.2.map Qa6.c)),(8,λb32=>aO 3 (b32.1.map Qe.c))] 9 (λz33 hr33=>?_) λb32=>?_
 &au ?_
 &xa λv34 hv34=>?_
 &ar ?_
 &xa λv35 hv35=>?_
 &ar ?_
 &ar ?_
 &xd λv36 hv36=>?_
 replace q0:=cG r0 (QdF hv36)
 &ar ?_
 &sq λK k=>?_
 &ar ?_
 &xs (λh38=>?_) λh38=>?_
 &cb ?_
 &sq λK k=>?_
 &xs (λh40=>?_) λh40=>?_
 &ar ?_
 &ca ?_
 ~wJ []
 &ar ?_
 &xs (λh41=>?_) λh41=>?_
 &ca ?_
 ~wJ []
 &cb ?_
 &xc λh42=>?_
 &ar ?_
 &xc λh43=>?_
 &ar ?_
 &goA (m_slS (a:=0) (b:=v4) h43 i52.ok i56.ok (.inl ⟨rfl,rfl⟩) (.inr ⟨_,_,rfl,rfl⟩)) ?_
 &au ?_
 &lP [5,8,9,11,20,23,24,43,44,45,57,58,59,70,71,72,116,117] [(7,λs45=>.own 8 0 v36.1.length),(10,λs45=>.own 3 0 s45.1.length),(118,λs45=>DI s45.2)] [1,6,7,8] [] [(3,λs45=>aO 3 (s45.1.map Qa6.c))] 9 λs45 y46 hq46=>?_
 &ar ?_
 &sq λK k=>?_
 &xs (λh48=>?_) λh48=>?_
 &ca ?_
 &sq λK k=>?_
 &au ?_
 &xa λv50 hv50=>?_
 &ar ?_
 &xa λv51 hv51=>?_
 &ar ?_
 &xs (λh52=>?_) λh52=>?_
 &ca ?_
 &xc λh53=>?_
 &ar ?_
 &goA (Ql (c:=Qa6.c) ([Qa6.mk v34 (QbO .i64 v34 (wu v2.1.space.sh)) (QbO .i64 (w64 (wu (v35-1))) (wu v2.1.space.sh))]:List Qa6) i54.ok i68.ok) ?_
 &goA (QW (c:=Qa6.c) s45.1 [Qa6.mk v34 (QbO .i64 v34 (wu v2.1.space.sh)) (QbO .i64 (w64 (wu (v35-1))) (wu v2.1.space.sh))] h53 i54.ok i68.ok rfl rfl (.own rfl rfl Os (Qg (c:=Qa6.c) (λ_=>rfl) _)) rfl) ?_
 &au ?_
 &ar ?_
 ~wJ [(3,11)]
 &db ?_
 ~wJ []
 &cb ?_
 &xo hq46 ?_
 ~wJ []
 &da ?_
 &xr hr33 ?_
 &xo hq29 ?_
 &xr hr24 ?_
 &xo hq20 ?_
 &xr hr15 ?_
 &xo hq11 ?_
 &xr hr6 ?_
 ~ft r0
 &ar ?_
 ~wJ [(4,8)]
 &cb ?_
 &xo hq29 ?_
 ~wJ []
 &ar ?_
 ~wJ []
 &cb ?_
 &xo hq20 ?_
 ~wJ []
 &ar ?_
 ~wJ []
 &cb ?_
 &xo hq11 ?_
 ~wJ [(3,4),(4,3)]
 &cU [5,7] [] [1,3] [] [] 4 (λz55 hr55=>?_) λb54=>?_
 &ar ?_
 &lP [5,7,144] [(143,λs57=>.own 4 0 b5.2.length),(145,λs57=>DI s57)] [1,3,4] [] [] 5 λs57 y58 hq58=>?_
 &ar ?_
 &sq λK k=>?_
 &xs (λh60=>?_) λh60=>?_
 &ca ?_
 &sq λK k=>?_
 &au ?_
 &xa λv62 hv62=>?_
 &ar ?_
 &xd λv63 hv63=>?_
 replace q0:=cS r0 (F_ref18_Has_ok hv63)
 &ar ?_
 &xs (λh64=>?_) λh64=>?_
 &db ?_
 ~wJ []
 &da ?_
 &xo hq58 ?_
 &xr hr55 ?_
 ~ft r0
 &cb ?_
 &xo hq58 ?_
 ~wJ []
 &xd λv65 hv65=>?_
 &xs (λh66=>?_) λh66=>?_
 &xd λv67 hv67=>?_
 replace q0:=cS r0 (Qda hv65)
 replace q1:=cS r0 (Qfe hv67)
 &ar ?_
 ~ft r0
 replace q0:=cS r0 (Qda hv65)
 &ar ?_
 ~ft r0
end Go.Proofs.YtkfnkecgcdhncaaGreat
