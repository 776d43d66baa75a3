/- Parts of the proof. No condition. -/
import Derived.Test.YthpnlnjdmlbnaaaGreatDoorQB0
import Derived.Test.YthpnlnjdmlbnaaaGreatDoorQB1
import Derived.Test.YthpnlnjdmlbnaaaGreatDoorQB2
import Derived.Test.YthpnlnjdmlbnaaaGreatDoorQB3
import Derived.Test.YthpnlnjdmlbnaaaGreatDoorQB4
import Derived.Test.YthpnlnjdmlbnaaaGreatDoorQB5
import Derived.Test.YthpnlnjdmlbnaaaGreatDoorQB6
import Derived.Test.YthpnlnjdmlbnaaaGreatDoorQB7
import Derived.Test.YthpnlnjdmlbnaaaGreatDoorQB8
import Derived.Test.YthpnlnjdmlbnaaaGreatDoorQB9
import Derived.Test.YthpnlnjdmlbnaaaGreatDoorQB10
import Derived.Test.YthpnlnjdmlbnaaaGreatDoorQB11
import Derived.Test.YthpnlnjdmlbnaaaGreatDoorQB12
import Derived.Test.YthpnlnjdmlbnaaaGreatDoorQE1
import Derived.Test.YthpnlnjdmlbnaaaGreatDoorChecked
import Derived.KernelRfl
import Derived.Laws.Externs
import Derived.Laws.StructEq
import Derived.Laws.CopyRow
import Derived.Laws.AppendOwn
import Derived.Laws.OwnMore
import Derived.Laws.MakeOwn
import Derived.Great.BuildSlice
import Derived.WalkKit
import Derived.WalkSpells
import Derived.WalkLawsBesides
import Derived.Lib.Hide
import Derived.Orders
import Derived.RegionTactic
import Derived.Deep.RegionHeld
import Derived.IntWalk
namespace Go.Proofs.YthpnlnjdmlbnaaaGreatDoor
open Go.RowKit
set_option linter.unusedSimpArgs false
set_option linter.unusedVariables false
set_option maxRecDepth 20000
set_option maxHeartbeats 40000000
noncomputable def Qe8(p0:List Int)(p1:Int):Option Int :=
 bndR (Qi (λ(s4:Int) =>
 if s4 < (p0.length:Int) then
 ((at_ p0 s4).bind λv9 =>
 if p1=v9 then
 (some (.out (.inr (s4))))
 else
 some (.go (w64 (s4+1))))
 else
 some (.out (.inl (())))) 0) λ(b1:Unit) =>
 some ((-1))
theorem Qfy{p0 p1 r}:Sm (Qe8 p0 p1) r->DCall Tryz.prog 150 [.sl (p0.map iC),DI p1] [] (DI r) []:=by
 unfold Qe8
 refine mk0 Tryz.func150 ?_
 refine ar ?_
 refine cU [] [] [] [] [] 0 (λz2 hr2=>?_) λb1=>?_
 refine ar ?_
 refine lP [0,1,7] [(8,λs4=>DI s4)] [] [] [] 0 λs4 y5 hq5=>?_
 refine ar ?_
 refine sq λK k=>?_
 refine xs (λh7=>?_) λh7=>?_
 refine ca ?_
 refine sq λK k=>?_
 refine ar ?_
 refine xa λv9 hv9=>?_
 refine ar ?_
 refine xs (λh10=>?_) λh10=>?_
 refine da ?_
 refine xo hq5 ?_
 refine xr hr2 ?_
 exact ft r0
 refine db ?_
 exact wJ []
 refine cb ?_
 refine xo hq5 ?_
 exact wJ []
 refine ar ?_
 exact ft r0
noncomputable def Qe1(p0:Int)(p1:Int):Option Bool :=
 if 3<=p0 then
 (if p0<=8 then
 (if 2<=p1 then
 (some (decide (p1<=64)))
 else
 some (false))
 else
 some (false))
 else
 some (false)
theorem QeX{p0 p1 r}:Sm (Qe1 p0 p1) r->DCall Tryz.prog 120 [DI p0,DI p1] [] (DB r) []:=by
 unfold Qe1
 refine mk0 Tryz.func120 ?_
 refine ar ?_
 refine xs (λh1=>?_) λh1=>?_
 refine xs (λh2=>?_) λh2=>?_
 refine xs (λh3=>?_) λh3=>?_
 refine ar ?_
 exact ft r0
 refine ar ?_
 exact ft r0
 refine ar ?_
 exact ft r0
 refine ar ?_
 exact ft r0
noncomputable def Qe5 :Option Cfg :=
 some (Cfg.mk (ByteArray.mk #[115]) [Rul.mk 0 0 0 0] 1)
theorem QeZ{r}:Sm (Qe5) r->DCall Tryz.prog 71 [] [] (.agg [.lit (.string r.name),.own 0 0 r.rules.length,DI r.full]) [(0,aO 4 (r.rules.map Rul.c))]:=by
 unfold Qe5
 refine mk0 Tryz.func71 ?_
 refine ar ?_
 refine ar ?_
 refine goA (Qk (c:=Rul.c) ([Rul.mk 0 0 0 0]:List Rul) i23.ok J5.ok) ?_
 refine au ?_
 exact fw [(0,1)]
noncomputable def Qfv(p0:Nat):Option Bool :=
 if ((p0:Nat):Int)=0 then
 (some (true))
 else
 if (Qez .gtr p0 0)=true then
 (some ((Qez .leq p0 4607182418800017408)))
 else
 some (false)
theorem QfK{p0 r}:Sm (Qfv p0) r->DCall Tryz.prog 222 [.lit (.float .f64 p0)] [] (DB r) []:=by
 unfold Qfv
 refine mk0 Tryz.func222 ?_
 refine ar ?_
 refine xs (λh1=>?_) λh1=>?_
 refine ar ?_
 refine goA (m_ext1 (u:=.float .f64 p0) (v:=.int .u64 ((p0:Nat):Int)) (λ_=>by rw [run_callFunc_extern Tryz.func204 Ok Ok Ok (e:=Extern.MathFloatBits.float64bits) Ok];rfl) rfl) ?_
 refine au ?_
 exact ft r0
 refine xs (λh2=>?_) λh2=>?_
 refine ar ?_
 refine goA (m_ext1 (u:=.float .f64 p0) (v:=.int .u64 ((p0:Nat):Int)) (λ_=>by rw [run_callFunc_extern Tryz.func204 Ok Ok Ok (e:=Extern.MathFloatBits.float64bits) Ok];rfl) rfl) ?_
 refine au ?_
 refine go (Qdm (.inr (.inr (.inr (.inr (.inl rfl)))))) ?_ (gY (decide_eq_false h1))
 refine au ?_
 refine go (Qdm (.inr (.inr (.inr (.inl rfl))))) ?_ (gY h2)
 refine au ?_
 exact ft r0
 refine ar ?_
 refine goA (m_ext1 (u:=.float .f64 p0) (v:=.int .u64 ((p0:Nat):Int)) (λ_=>by rw [run_callFunc_extern Tryz.func204 Ok Ok Ok (e:=Extern.MathFloatBits.float64bits) Ok];rfl) rfl) ?_
 refine au ?_
 refine go (Qdm (.inr (.inr (.inr (.inr (.inl rfl)))))) ?_ (gY (decide_eq_false h1))
 refine au ?_
 exact ft r0
noncomputable def Qfm(p0:Int):Option Bool :=
 if 0<=p0 then
 (some (decide (p0<=64)))
 else
 some (false)
theorem Qe0{p0 r}:Sm (Qfm p0) r->DCall Tryz.prog 223 [DI p0] [] (DB r) []:=by
 unfold Qfm
 refine mk0 Tryz.func223 ?_
 refine ar ?_
 refine xs (λh1=>?_) λh1=>?_
 refine ar ?_
 exact ft r0
 refine ar ?_
 exact ft r0
noncomputable def Qfj(p0:Cfg)(p1:Int):Option Bool :=
 bndR (Qi (λ(s4:Int) =>
 if s4 < (p0.rules.length:Int) then
 ((at_ p0.rules s4).bind λv9 =>
 if s4=p1 then
 (some (.go (w64 (s4+1))))
 else
 if v9.target=p1 then
 (some (.out (.inr (true))))
 else
 some (.go (w64 (s4+1))))
 else
 some (.out (.inl (())))) 0) λ(b1:Unit) =>
 some (false)
theorem QfA{p0 p1 r}:Sm (Qfj p0 p1) r->DCall Tryz.prog 203 [.agg [.lit (.string p0.name),.sl (p0.rules.map Rul.c),DI p0.full],DI p1] [] (DB r) []:=by
 unfold Qfj
 refine mk0 Tryz.func203 ?_
 refine ar ?_
 refine cU [] [] [] [] [] 0 (λz2 hr2=>?_) λb1=>?_
 refine ar ?_
 refine lP [1,8,9] [(10,λs4=>DI s4)] [] [] [] 0 λs4 y5 hq5=>?_
 refine ar ?_
 refine sq λK k=>?_
 refine xs (λh7=>?_) λh7=>?_
 refine ca ?_
 refine sq λK k=>?_
 refine au ?_
 refine xa λv9 hv9=>?_
 refine ar ?_
 refine xs (λh10=>?_) λh10=>?_
 refine ar ?_
 refine db ?_
 exact wJ []
 refine ar ?_
 refine xs (λh11=>?_) λh11=>?_
 refine da ?_
 refine xo hq5 ?_
 refine xr hr2 ?_
 exact ft r0
 refine db ?_
 exact wJ []
 refine cb ?_
 refine xo hq5 ?_
 exact wJ []
 refine ar ?_
 exact ft r0
noncomputable def Qfq(p0:Rts):Option (List Int) :=
 (Qi (λ(s5:List Int×Int) =>
 if s5.2 < (p0.used.length:Int) then
 ((at_ p0.used s5.2).bind λv10 =>
 if v10=true then
 (if ((s5.1.length:Int)+[w64 (s5.2+1)].length) * 8<=140737488355328/\(s5.1.length:Int)+[w64 (s5.2+1)].length<=9223372036854775807 then
 some (.go ((s5.1++[w64 (s5.2+1)],w64 (s5.2+1))))
 else none)
 else
 some (.go ((s5.1,w64 (s5.2+1)))))
 else
 some (.out (s5.1))) (([]:List Int),0)).bind λ(b1:List Int) =>
 some (b1)
theorem F_root_Live_ok{p0 r}:Sm (Qfq p0) r->DCall Tryz.prog 73 [.agg [.sl (p0.used.map bC),.sl (p0.refs.map uC)]] [] (.own 0 0 r.length) [(0,aO 1 (r.map iC))]:=by
 unfold Qfq
 refine mk0 Tryz.func73 ?_
 refine ar ?_
 refine ar ?_
 refine cT [] [(3,λb1=>.own 1 0 b1.length)] [] [] [(1,λb1=>aO 1 (b1.map iC))] 2 (λz2=>?_) λb1=>?_
 refine ar ?_
 refine xx (QU 3 1 Od rfl) ?_
 refine lP [7,8] [(3,λs5=>.own 1 0 s5.1.length),(9,λs5=>DI s5.2)] [] [] [(1,λs5=>aO 1 (s5.1.map iC))] 2 λs5 y6 hq6=>?_
 refine ar ?_
 refine sq λK k=>?_
 refine xs (λh8=>?_) λh8=>?_
 refine ca ?_
 refine sq λK k=>?_
 refine au ?_
 refine xa λv10 hv10=>?_
 refine ar ?_
 refine ar ?_
 refine xs (λh11=>?_) λh11=>?_
 refine ca ?_
 refine xc λh12=>?_
 refine ar ?_
 refine goA (Qk (c:=iC) ([w64 (s5.2+1)]:List Int) i22.ok i3.ok) ?_
 refine goA (QT (c:=iC) s5.1 [w64 (s5.2+1)] h12 i22.ok i3.ok rfl rfl (.own rfl rfl Os (Qf (c:=iC) (λ_=>rfl) _)) rfl) ?_
 refine au ?_
 refine ar ?_
 exact wJ [(1,3)]
 refine db ?_
 exact wJ []
 refine cb ?_
 refine xo hq6 ?_
 exact wJ []
 refine ar ?_
 exact ft [(0,1)]
noncomputable def Qfd(p0:Hp):Option Int :=
 (Qi (λ(s4:Int×Int) =>
 if s4.2 < (p0.belts.length:Int) then
 ((at_ p0.belts s4.2).bind λv9 =>
 some (.go ((w64 (s4.1+(w64 ((v9.length:Int) * (w64 ((p0.belts.length:Int) - s4.2))))),w64 (s4.2+1)))))
 else
 some (.out (s4.1))) (0,0)).bind λ(b1:Int) =>
 some (b1)
theorem Qfu{p0 r}:Sm (Qfd p0) r->DCall Tryz.prog 40 [.agg [.lit (.string p0.config.name),.sl (p0.config.rules.map Rul.c),DI p0.config.full,DI p0.space.sh,.sl (p0.space.ws.map uC),.sl (p0.space.fs.map frC),.sl (p0.belts.map (lC Inc.c)),DI p0.seq,.sl (p0.sets.map Qe.c),.sl (p0.roots.used.map bC),.sl (p0.roots.refs.map uC),DI p0.since,DI p0.stats.allocated,DI p0.stats.objects,DI p0.stats.collections,DI p0.stats.steps,DI p0.stats.rounds,DI p0.stats.condemned,DI p0.stats.copied,DI p0.stats.entries,DI p0.stats.work,DB p0.dead]] [] (DI r) []:=by
 unfold Qfd
 refine mk0 Tryz.func40 ?_
 refine ar ?_
 refine ar ?_
 refine cT [] [(3,λb1=>DI b1)] [] [] [] 0 (λz2=>?_) λb1=>?_
 refine ar ?_
 refine lP [7,8] [(1,λs4=>.ptr 0 0 0),(3,λs4=>DI s4.1),(9,λs4=>DI s4.2)] [0] [] [] 1 λs4 y5 hq5=>?_
 refine ar ?_
 refine sq λK k=>?_
 refine xs (λh7=>?_) λh7=>?_
 refine ca ?_
 refine sq λK k=>?_
 refine au ?_
 refine xa λv9 hv9=>?_
 refine ar ?_
 refine ar ?_
 refine ar ?_
 exact wJ []
 refine cb ?_
 refine xo hq5 ?_
 exact wJ []
 refine ar ?_
 exact ft r0
noncomputable def Qfk(p0:Hp):Option Int :=
 (Qi (λ(s4:Int×Int) =>
 if s4.2 < (p0.belts.length:Int) then
 ((at_ p0.belts s4.2).bind λv9 =>
 some (.go ((w64 (s4.1+(w64 ((v9.length:Int) * (w64 ((p0.belts.length:Int) - s4.2))))),w64 (s4.2+1)))))
 else
 some (.out (s4.1))) (0,0)).bind λ(b1:Int) =>
 some (b1)
theorem Qfs{p0 r}:Sm (Qfk p0) r->DCall Tryz.prog 41 [.agg [.lit (.string p0.config.name),.sl (p0.config.rules.map Rul.c),DI p0.config.full,DI p0.space.sh,.sl (p0.space.ws.map uC),.sl (p0.space.fs.map frC),.sl (p0.belts.map (lC Inc.c)),DI p0.seq,.sl (p0.sets.map Qe.c),.sl (p0.roots.used.map bC),.sl (p0.roots.refs.map uC),DI p0.since,DI p0.stats.allocated,DI p0.stats.objects,DI p0.stats.collections,DI p0.stats.steps,DI p0.stats.rounds,DI p0.stats.condemned,DI p0.stats.copied,DI p0.stats.entries,DI p0.stats.work,DB p0.dead]] [] (DI r) []:=by
 unfold Qfk
 refine mk0 Tryz.func41 ?_
 refine ar ?_
 refine ar ?_
 refine cT [] [(3,λb1=>DI b1)] [] [] [] 0 (λz2=>?_) λb1=>?_
 refine ar ?_
 refine lP [7,8] [(1,λs4=>.ptr 0 0 0),(3,λs4=>DI s4.1),(9,λs4=>DI s4.2)] [0] [] [] 1 λs4 y5 hq5=>?_
 refine ar ?_
 refine sq λK k=>?_
 refine xs (λh7=>?_) λh7=>?_
 refine ca ?_
 refine sq λK k=>?_
 refine au ?_
 refine xa λv9 hv9=>?_
 refine ar ?_
 refine ar ?_
 refine ar ?_
 exact wJ []
 refine cb ?_
 refine xo hq5 ?_
 exact wJ []
 refine ar ?_
 exact ft r0
noncomputable def QeY(p0:List Int)(p1:Int):Option Bool :=
 (Qe8 p0 p1).bind λv1 =>
 some (decide (0<=v1))
theorem Qe4{p0 p1 r}:Sm (QeY p0 p1) r->DCall Tryz.prog 94 [.sl (p0.map iC),DI p1] [] (DB r) []:=by
 unfold QeY
 refine mk0 Tryz.func94 ?_
 refine ar ?_
 refine xd λv1 hv1=>?_
 have q0:=cS r0 (Qfy hv1)
 refine ar ?_
 exact ft r0
noncomputable def Qfb(p0:Int):Option Int :=
 (Qe1 p0 2).bind λv2 =>
 if v2=true then
 (if 0<=wu p0 then
 some (Qcq .i64 4 (wu p0))
 else none)
 else
 some (0)
theorem Qe7{p0 r}:Sm (Qfb p0) r->DCall Tryz.prog 69 [DI p0] [] (DI r) []:=by
 unfold Qfb
 refine mk0 Tryz.func69 ?_
 refine ar ?_
 refine sq λK k=>?_
 refine xd λv2 hv2=>?_
 have q0:=cS r0 (QeX hv2)
 refine ar ?_
 refine xs (λh3=>?_) λh3=>?_
 refine cb ?_
 refine xc λh4=>?_
 refine ar ?_
 exact ft r0
 refine da ?_
 exact ft r0
end Go.Proofs.YthpnlnjdmlbnaaaGreatDoor
