/- Parts of the proof. No condition. -/
import Derived.Test.YthpnlnjdmlbnaaaGreatDoorQB0
import Derived.Test.YthpnlnjdmlbnaaaGreatDoorQB1
import Derived.Test.YthpnlnjdmlbnaaaGreatDoorQB2
import Derived.Test.YthpnlnjdmlbnaaaGreatDoorQB3
import Derived.Test.YthpnlnjdmlbnaaaGreatDoorQB4
import Derived.Test.YthpnlnjdmlbnaaaGreatDoorQB5
import Derived.Test.YthpnlnjdmlbnaaaGreatDoorQB6
import Derived.Test.YthpnlnjdmlbnaaaGreatDoorQB7
import Derived.Test.YthpnlnjdmlbnaaaGreatDoorQB8
import Derived.Test.YthpnlnjdmlbnaaaGreatDoorQB9
import Derived.Test.YthpnlnjdmlbnaaaGreatDoorQB10
import Derived.Test.YthpnlnjdmlbnaaaGreatDoorQB11
import Derived.Test.YthpnlnjdmlbnaaaGreatDoorQB12
import Derived.Test.YthpnlnjdmlbnaaaGreatDoorQG1
import Derived.Test.YthpnlnjdmlbnaaaGreatDoorChecked
import Derived.KernelRfl
import Derived.Laws.Externs
import Derived.Laws.StructEq
import Derived.Laws.CopyRow
import Derived.Laws.AppendOwn
import Derived.Laws.OwnMore
import Derived.Laws.MakeOwn
import Derived.Great.BuildSlice
import Derived.WalkKit
import Derived.WalkSpells
import Derived.WalkLawsBesides
import Derived.Lib.Hide
import Derived.Orders
import Derived.RegionTactic
import Derived.Deep.RegionHeld
import Derived.Test.YthpnlnjdmlbnaaaGreatDoorRows
import Derived.Laws.RangeAny
import Derived.Deep.QuietTactic
import Derived.BigQuiet
namespace Go.Proofs.YthpnlnjdmlbnaaaGreatDoor
open Go.RowKit
set_option linter.unusedSimpArgs false
set_option linter.unusedVariables false
set_option maxRecDepth 20000
set_option maxHeartbeats 40000000
noncomputable def Qe0(p0:List Int)(p1:Int):Option Int :=
 bndR (Qi (λ(s4:Int) =>
 if s4 < (p0.length:Int) then
 ((at_ p0 s4).bind λv9 =>
 if p1=v9 then
 (some (.out (.inr (s4))))
 else
 some (.go (w64 (s4+1))))
 else
 some (.out (.inl (())))) 0) λ(b1:Unit) =>
 some ((-1))
theorem Qe8{p0 p1 r}:Sm (Qe0 p0 p1) r->DCall Tryz.prog 150 [.sl (p0.map iC),DI p1] [] (DI r) []:=by
 unfold Qe0
 refine mk0 Tryz.func150 ?_
 refine ar ?_
 refine cU [] [] [] [] [] 0 (λz2 hr2=>?_) λb1=>?_
 refine ar ?_
 refine lP [0,1,7] [(8,λs4=>DI s4)] [] [] [] 0 λs4 y5 hq5=>?_
 refine ar ?_
 refine sq λK k=>?_
 refine xs (λh7=>?_) λh7=>?_
 refine ca ?_
 refine sq λK k=>?_
 refine ar ?_
 refine xa λv9 hv9=>?_
 refine ar ?_
 refine xs (λh10=>?_) λh10=>?_
 refine da ?_
 refine xo hq5 ?_
 refine xr hr2 ?_
 exact ft r0
 refine db ?_
 exact wJ []
 refine cb ?_
 refine xo hq5 ?_
 exact wJ []
 refine ar ?_
 exact ft r0
noncomputable def QeZ(p0:List Int)(p1:List Int):Option Bool :=
 if (p0.length:Int)=(p1.length:Int) then
 (bndR (Qi (λ(s6:Int) =>
 if s6 < (p0.length:Int) then
 ((at_ p0 s6).bind λv11 =>
 (at_ p1 s6).bind λv12 =>
 if v11=v12 then
 (some (.go (w64 (s6+1))))
 else
 some (.out (.inr (false))))
 else
 some (.out (.inl (())))) 0) λ(b3:Unit) =>
 some (true))
 else
 some (false)
theorem Qe3{p0 p1 r}:Sm (QeZ p0 p1) r->DCall Tryz.prog 22 [.sl (p0.map iC),.sl (p1.map iC)] [] (DB r) []:=by
 unfold QeZ
 refine mk0 Tryz.func22 ?_
 refine ar ?_
 refine sq λK k=>?_
 refine ar ?_
 refine xs (λh2=>?_) λh2=>?_
 refine cb ?_
 refine cU [] [] [] [] [] 0 (λz4 hr4=>?_) λb3=>?_
 refine ar ?_
 refine lP [0,1,12] [(13,λs6=>DI s6)] [] [] [] 0 λs6 y7 hq7=>?_
 refine ar ?_
 refine sq λK k=>?_
 refine xs (λh9=>?_) λh9=>?_
 refine ca ?_
 refine sq λK k=>?_
 refine ar ?_
 refine xa λv11 hv11=>?_
 refine xa λv12 hv12=>?_
 refine ar ?_
 refine xs (λh13=>?_) λh13=>?_
 refine db ?_
 exact wJ []
 refine da ?_
 refine xo hq7 ?_
 refine xr hr4 ?_
 exact ft r0
 refine cb ?_
 refine xo hq7 ?_
 exact wJ []
 refine ar ?_
 exact ft r0
 refine da ?_
 exact ft r0
noncomputable def Qdh(p0:List Int)(p1:Int):Option Bool :=
 (Qe0 p0 p1).bind λv1 =>
 some (decide (0<=v1))
theorem QeY{p0 p1 r}:Sm (Qdh p0 p1) r->DCall Tryz.prog 94 [.sl (p0.map iC),DI p1] [] (DB r) []:=by
 unfold Qdh
 refine mk0 Tryz.func94 ?_
 refine ar ?_
 refine xd λv1 hv1=>?_
 have q0:=cS r0 (Qe8 hv1)
 refine ar ?_
 exact ft r0
noncomputable def Qe5(p0:List Qe)(p1:List Int):Option (List Int×Int) :=
 (Qi (λ(s5:List Int×Int) =>
 if s5.2 < (p0.length:Int) then
 ((at_ p0 s5.2).bind λv10 =>
 (Qdh p1 v10.to).bind λv11 =>
 if v11=true then
 ((Qdh p1 v10.frm).bind λv13 =>
 if v13=true then
 (some (.go ((s5.1,w64 (s5.2+1)))))
 else
 if ((s5.1.length:Int)+v10.slots.length) * 8<=140737488355328/\(s5.1.length:Int)+v10.slots.length<=9223372036854775807 then
 some (.go ((s5.1++v10.slots,w64 (s5.2+1))))
 else none)
 else
 some (.go ((s5.1,w64 (s5.2+1)))))
 else
 some (.out (s5.1))) (([]:List Int),0)).bind λ(b1:List Int) =>
 (Qe4 b1).bind λv16 =>
 if v16.length=b1.length then
 (Qe1 v16).bind λv17 =>
 some ((v17,(b1.length:Int)))
 else none
theorem Qfh{p0 p1 r}:Sm (Qe5 p0 p1) r->DCall Tryz.prog 51 [.sl (p0.map Qe.c),.sl (p1.map iC)] [] (.tup [.own 0 0 r.1.length,DI r.2]) [(0,aO 1 (r.1.map iC))]:=by
 unfold Qe5
 refine mk0 Tryz.func51 ?_
 refine ar ?_
 refine ar ?_
 refine cT [] [(6,λb1=>.own 0 0 b1.length)] [] [] [(0,λb1=>aO 1 (b1.map iC))] 1 (λz2=>?_) λb1=>?_
 refine ar ?_
 refine xx (QU 6 1 Od rfl) ?_
 refine lP [1,10,11] [(6,λs5=>.own 0 0 s5.1.length),(12,λs5=>DI s5.2)] [] [] [(0,λs5=>aO 1 (s5.1.map iC))] 1 λs5 y6 hq6=>?_
 refine ar ?_
 refine sq λK k=>?_
 refine xs (λh8=>?_) λh8=>?_
 refine ca ?_
 refine sq λK k=>?_
 refine au ?_
 refine xa λv10 hv10=>?_
 refine ar ?_
 refine xd λv11 hv11=>?_
 refine xs (λh12=>?_) λh12=>?_
 refine xd λv13 hv13=>?_
 refine ar ?_
 refine goA (m_cS r0 (QeY hv11) rfl ScS.nil) ?_
 refine au ?_
 refine go (m_cS r0 (QeY hv13) rfl ScS.nil) ?_ (gY h12)
 refine au ?_
 refine xs (λh14=>?_) λh14=>?_
 refine db ?_
 exact wJ []
 refine ca ?_
 refine xc λh15=>?_
 refine ar ?_
 refine goA (QT (c:=iC) s5.1 v10.slots h15 i22.ok i3.ok rfl rfl (.sl rfl (Qf (c:=iC) (λ_=>rfl) _)) rfl) ?_
 refine au ?_
 refine ar ?_
 exact wJ [(0,2)]
 have q0:=cS r0 (QeY hv11)
 refine ar ?_
 refine db ?_
 exact wJ []
 refine cb ?_
 refine xo hq6 ?_
 exact wJ []
 refine ar ?_
 refine xd λv16 hv16=>?_
 refine xc λh18=>?_
 have q0:=cS r1 (Qfc hv16)
 refine ar ?_
 refine xd λv17 hv17=>?_
 replace q0:=cS r1 (Qe9 hv17)
 refine ar ?_
 exact ftt [(0,1)]
noncomputable def Qe2(p0:Sp)(p1:List Qe)(p2:List Inc):Option (List Int×Int) :=
 (XE p0 p2).bind λv1 =>
 (Xh p0 p2).bind λv2 =>
 (Qe5 p1 v2).bind λv3 =>
 (Qi (λ(s8:List Int×Int) =>
 if s8.2 < (v3.1.length:Int) then
 ((at_ v3.1 s8.2).bind λv13 =>
 if v13 < (p0.ws.length:Int) then
 ((at_ p0.ws v13).bind λv15 =>
 (Xg p0 v1 v15).bind λv16 =>
 if v16=true then
 (if ((s8.1.length:Int)+[v13].length) * 8<=140737488355328/\(s8.1.length:Int)+[v13].length<=9223372036854775807 then
 some (.go ((s8.1++[v13],w64 (s8.2+1))))
 else none)
 else
 some (.go ((s8.1,w64 (s8.2+1)))))
 else
 some (.go ((s8.1,w64 (s8.2+1)))))
 else
 some (.out (s8.1))) (([]:List Int),0)).bind λ(b4:List Int) =>
 some ((b4,v3.2))
theorem Qff{p0 p1 p2 r}:Sm (Qe2 p0 p1 p2) r->DCall Tryz.prog 21 [.agg [DI p0.sh,.sl (p0.ws.map uC),.sl (p0.fs.map frC)],.sl (p1.map Qe.c),.sl (p2.map Inc.c)] [] (.tup [.own 0 0 r.1.length,DI r.2]) [(0,aO 1 (r.1.map iC))]:=by
 unfold Qe2
 refine mk0 Tryz.func21 ?_
 refine ar ?_
 refine xd λv1 hv1=>?_
 have q0:=cS r0 (QaV hv1)
 refine ar ?_
 refine xd λv2 hv2=>?_
 refine xd λv3 hv3=>?_
 replace q0:=cS r0 (Qa0 hv2)
 have q1:=cS r0 (Qfh hv3)
 refine ar ?_
 refine ar ?_
 refine cT [10] [(11,λb4=>.own 3 0 b4.length)] [] [] [(3,λb4=>aO 1 (b4.map iC))] 4 (λz5=>?_) λb4=>?_
 refine ar ?_
 refine xx (QU 11 1 Od rfl) ?_
 refine lP [8,10,26] [(3,λs8=>.ptr 0 0 0),(11,λs8=>.own 3 0 s8.1.length),(25,λs8=>.own 2 0 v3.1.length),(27,λs8=>DI s8.2)] [0,2] [] [(3,λs8=>aO 1 (s8.1.map iC))] 4 λs8 y9 hq9=>?_
 refine ar ?_
 refine sq λK k=>?_
 refine xs (λh11=>?_) λh11=>?_
 refine ca ?_
 refine sq λK k=>?_
 refine au ?_
 refine xa λv13 hv13=>?_
 refine ar ?_
 refine xs (λh14=>?_) λh14=>?_
 refine xa λv15 hv15=>?_
 refine xd λv16 hv16=>?_
 replace q0:=cS r0 (QaZ hv16)
 refine ar ?_
 refine xs (λh17=>?_) λh17=>?_
 refine ca ?_
 refine xc λh18=>?_
 refine ar ?_
 refine goA (Qk (c:=iC) ([v13]:List Int) i22.ok i3.ok) ?_
 refine goA (QT (c:=iC) s8.1 [v13] h18 i22.ok i3.ok rfl rfl (.own rfl rfl Os (Qf (c:=iC) (λ_=>rfl) _)) rfl) ?_
 refine au ?_
 refine ar ?_
 exact wJ [(3,5)]
 refine db ?_
 exact wJ []
 refine ar ?_
 refine db ?_
 exact wJ []
 refine cb ?_
 refine xo hq9 ?_
 exact wJ []
 refine ar ?_
 exact ftt [(0,3)]
noncomputable def QeX(p0:List Int)(p1:Int):Option Bool :=
 (QbP p0).bind λv1 =>
 (J2 v1).bind λv2 =>
 (XB v2.1.belts).bind λv3 =>
 (QaD p1 (w64 ((v3.length:Int)+1))).bind λv4 =>
 if 0<=(v2.1.space.ws.length:Int)/\(v2.1.space.ws.length:Int) * 1<=281474976710656/\(v2.1.space.ws.length:Int)<=9223372036854775807 then
 (if 0<=v4/\v4<=(v3.length:Int)/\(v3.length:Int)<=v3.length then
 Qi (λ(s10:List Bool×Int) =>
 if s10.2 < (((v3.take (Int.toNat (v3.length:Int))).drop (Int.toNat v4)).length:Int) then
 (((at_ ((v3.take (Int.toNat (v3.length:Int))).drop (Int.toNat v4)) s10.2).bind λv16 =>
 (JZ v2.1.space v16).bind λv17 =>
 Qi (λ(s19:List Bool×Int) =>
 if s19.2 < (v17.1.length:Int) then
 (((at_ v17.1 s19.2).bind λv25 =>
 (Q5 v2.1.space v25).bind λv26 =>
 Qi (λ(s28:List Bool×Int) =>
 if s28.2 < (v26.1.length:Int) then
 ((at_ v26.1 s28.2).bind λv33 =>
 if (0:Int)<=0/\0<=v4/\v4<=v3.length then
 (at_ v2.1.space.ws v33).bind λv35 =>
 (ZD v2.1.space ((v3.take (Int.toNat v4)).drop (Int.toNat 0)) v35).bind λv36 =>
 (at_ s28.1 v33).bind λv37 =>
 some (.go ((s28.1.set (Int.toNat v33) v36,w64 (s28.2+1))))
 else none)
 else
 some (.out (s28.1))) (s19.1,0)).bind λ(b23:List Bool) =>
 some (.go ((b23,w64 (s19.2+1)))))
 else
 some (.out (s19.1))) (s10.1,0)).bind λ(b14:List Bool) =>
 some (.go ((b14,w64 (s10.2+1)))))
 else
 some (.out (s10.1))) (List.replicate (Int.toNat (v2.1.space.ws.length:Int)) false,0)
 else none).bind λ(b6:List Bool) =>
 (Qi (λ(s42:List Int×Int) =>
 if s42.2 < (b6.length:Int) then
 ((at_ b6 s42.2).bind λv47 =>
 if v47=true then
 (if ((s42.1.length:Int)+[s42.2].length) * 8<=140737488355328/\(s42.1.length:Int)+[s42.2].length<=9223372036854775807 then
 some (.go ((s42.1++[s42.2],w64 (s42.2+1))))
 else none)
 else
 some (.go ((s42.1,w64 (s42.2+1)))))
 else
 some (.out (s42.1))) (([]:List Int),0)).bind λ(b38:List Int) =>
 if (0:Int)<=0/\0<=v4/\v4<=v3.length then
 (Qe2 v2.1.space v2.1.sets ((v3.take (Int.toNat v4)).drop (Int.toNat 0))).bind λv51 =>
 (QeZ v51.1 b38).bind λv52 =>
 if v52=true then
 (if (v51.1.length:Int)<=v51.2 then
 ((Jc).bind λv55 =>
 some (v55))
 else
 some (false))
 else
 some (false)
 else none
 else none
theorem Qe7{p0 p1 r}:Sm (QeX p0 p1) r->DCall Tryz.prog 4 [.sl (p0.map iC),DI p1] [] (DB r) []:=by
 unfold QeX
 refine mk0 Tryz.func4 ?_
 refine ar ?_
 refine xd λv1 hv1=>?_
 refine xd λv2 hv2=>?_
 have q0:=cG r0 (F_make_New_ok hv1)
 have q1:=cG r1 (F_make_Heap_ok hv2)
 refine ar ?_
 refine xd λv3 hv3=>?_
 replace q0:=cG r0 (QeQ hv3)
 refine ar ?_
 refine xd λv4 hv4=>?_
 replace q0:=cS r0 (F_make_Mod_ok hv4)
 refine ar ?_
 refine ar ?_
 refine xc λh5=>?_
 refine ar ?_
 refine goA (Qeh (c:=bC) false h5 i32.ok i4.ok) ?_
 refine au ?_
 refine cT [7,8,9] [(5,λb6=>.ptr 1 0 0),(10,λb6=>.own 3 0 b6.length)] [1] [] [(3,λb6=>aO 1 (b6.map bC))] 4 (λz7=>?_) λb6=>?_
 refine xc λh8=>?_
 refine ar ?_
 refine goA (m_slS (a:=v4) (b:=(v3.length:Int)) h8 i46.ok i49.ok (.inr ⟨_,_,rfl,rfl⟩) (.inl ⟨rfl,rfl⟩)) ?_
 refine au ?_
 refine lP [7,8,9,46,47] [(5,λs10=>.ptr 1 0 0),(10,λs10=>.own 3 0 s10.1.length),(48,λs10=>DI s10.2)] [1] [] [(3,λs10=>aO 1 (s10.1.map bC))] 4 λs10 y11 hq11=>?_
 refine ar ?_
 refine sq λK k=>?_
 refine xs (λh13=>?_) λh13=>?_
 refine ca ?_
 refine cT [5,7,8,9,46,47,48] [(10,λb14=>.own 3 0 b14.length)] [1] [] [(3,λb14=>aO 1 (b14.map bC))] 4 (λz15=>?_) λb14=>?_
 refine au ?_
 refine xa λv16 hv16=>?_
 refine ar ?_
 refine xd λv17 hv17=>?_
 replace q0:=cS r0 (F_ref10_All_ok hv17)
 refine ar ?_
 refine ar ?_
 refine lP [5,7,8,9,46,47,48,60] [(10,λs19=>.own 3 0 s19.1.length),(59,λs19=>.own 5 0 v17.1.length),(61,λs19=>DI s19.2)] [1,5] [] [(3,λs19=>aO 1 (s19.1.map bC))] 6 λs19 y20 hq20=>?_
 refine ar ?_
 refine sq λK k=>?_
 refine xs (λh22=>?_) λh22=>?_
 refine ca ?_
 refine cT [5,7,8,9,46,47,48,59,60,61] [(10,λb23=>.own 3 0 b23.length)] [1,5] [] [(3,λb23=>aO 1 (b23.map bC))] 6 (λz24=>?_) λb23=>?_
 refine au ?_
 refine xa λv25 hv25=>?_
 refine ar ?_
 refine xd λv26 hv26=>?_
 replace q0:=cS r0 (QaB hv26)
 refine ar ?_
 refine ar ?_
 refine lP [5,7,8,9,46,47,48,59,60,61,73] [(10,λs28=>.own 3 0 s28.1.length),(72,λs28=>.own 6 0 v26.1.length),(74,λs28=>DI s28.2)] [1,5,6] [] [(3,λs28=>aO 1 (s28.1.map bC))] 7 λs28 y29 hq29=>?_
 refine ar ?_
 refine sq λK k=>?_
 refine xs (λh31=>?_) λh31=>?_
 refine ca ?_
 refine sq λK k=>?_
 refine au ?_
 refine xa λv33 hv33=>?_
 refine ar ?_
 refine xc λh34=>?_
 refine xa λv35 hv35=>?_
 refine xd λv36 hv36=>?_
 refine xa λv37 hv37=>?_
 replace q0:=cS r0 (Ze hv36)
 refine ar ?_
 refine goA (m_slS (a:=0) (b:=v4) h34 i46.ok i49.ok (.inl ⟨rfl,rfl⟩) (.inr ⟨_,_,rfl,rfl⟩)) ?_
 refine au ?_
 refine goA (Z2 (c:=bC) hv37.h v36 i4.ok) ?_
 refine au ?_
 refine ar ?_
 exact wJ []
 refine cb ?_
 refine xo hq29 ?_
 exact wJ []
 refine ar ?_
 exact wJ []
 refine cb ?_
 refine xo hq20 ?_
 exact wJ []
 refine ar ?_
 exact wJ []
 refine cb ?_
 refine xo hq11 ?_
 exact wJ []
 refine cT [5,7,8] [(9,λb38=>.own 4 0 b38.length)] [1] [] [(4,λb38=>aO 1 (b38.map iC))] 5 (λz39=>?_) λb38=>?_
 refine ar ?_
 refine xx (QU 9 1 Od rfl) ?_
 refine lP [5,7,8,97] [(9,λs42=>.own 4 0 s42.1.length),(96,λs42=>.own 3 0 b6.length),(98,λs42=>DI s42.2)] [1,3] [] [(4,λs42=>aO 1 (s42.1.map iC))] 5 λs42 y43 hq43=>?_
 refine ar ?_
 refine sq λK k=>?_
 refine xs (λh45=>?_) λh45=>?_
 refine ca ?_
 refine sq λK k=>?_
 refine au ?_
 refine xa λv47 hv47=>?_
 refine ar ?_
 refine ar ?_
 refine xs (λh48=>?_) λh48=>?_
 refine ca ?_
 refine xc λh49=>?_
 refine ar ?_
 refine goA (Qk (c:=iC) ([s42.2]:List Int) i22.ok i3.ok) ?_
 refine goA (QT (c:=iC) s42.1 [s42.2] h49 i22.ok i3.ok rfl rfl (.own rfl rfl Os (Qf (c:=iC) (λ_=>rfl) _)) rfl) ?_
 refine au ?_
 refine ar ?_
 exact wJ [(4,6)]
 refine db ?_
 exact wJ []
 refine cb ?_
 refine xo hq43 ?_
 exact wJ []
 refine xc λh50=>?_
 refine xd λv51 hv51=>?_
 replace q0:=cS r0 (Qff hv51)
 refine ar ?_
 refine goA (m_slS (a:=0) (b:=v4) h50 i46.ok i49.ok (.inl ⟨rfl,rfl⟩) (.inr ⟨_,_,rfl,rfl⟩)) ?_
 refine au ?_
 refine xd λv52 hv52=>?_
 refine xs (λh53=>?_) λh53=>?_
 refine xs (λh54=>?_) λh54=>?_
 refine xd λv55 hv55=>?_
 replace q0:=cS r0 (Qe3 hv52)
 replace q1:=cS r0 (QdC hv55)
 refine ar ?_
 exact ft r0
 replace q0:=cS r0 (Qe3 hv52)
 refine ar ?_
 exact ft r0
 replace q0:=cS r0 (Qe3 hv52)
 refine ar ?_
 exact ft r0
end Go.Proofs.YthpnlnjdmlbnaaaGreatDoor
