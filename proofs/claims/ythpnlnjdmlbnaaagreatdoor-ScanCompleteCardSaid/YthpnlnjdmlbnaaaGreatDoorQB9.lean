/- Parts of the proof. No condition. -/
import Derived.Test.YthpnlnjdmlbnaaaGreatDoorQB0
import Derived.Test.YthpnlnjdmlbnaaaGreatDoorQB3
import Derived.Test.YthpnlnjdmlbnaaaGreatDoorQB4
import Derived.Test.YthpnlnjdmlbnaaaGreatDoorQB5
import Derived.Test.YthpnlnjdmlbnaaaGreatDoorQB6
import Derived.Test.YthpnlnjdmlbnaaaGreatDoorQB7
import Derived.Test.YthpnlnjdmlbnaaaGreatDoorQB8
namespace Go.Proofs.YthpnlnjdmlbnaaaGreatDoor
open Go.RowKit
set_option linter.unusedSimpArgs false
set_option linter.unusedVariables false
set_option maxRecDepth 20000
set_option maxHeartbeats 40000000
noncomputable def Zh(p0:Hp)(p1:Int):Option (Hp×Bool) :=
 (Qw p0).bind λv1 =>
 Qi (λ(s3:ByteArray×List Rul×Int×Int×List Int×List Fe×List (List Inc)×Int×List Qe×List Bool×List Int×Int×Int×Int×Int×Int×Int×Int×Int×Int×Int×Bool×Cur) =>
 bndR (if 0 < p1 then
 ((Zg (Hp.mk (Cfg.mk s3.1 s3.2.1 s3.2.2.1) (Sp.mk s3.2.2.2.1 s3.2.2.2.2.1 s3.2.2.2.2.2.1) s3.2.2.2.2.2.2.1 s3.2.2.2.2.2.2.2.1 s3.2.2.2.2.2.2.2.2.1 (Rts.mk s3.2.2.2.2.2.2.2.2.2.1 s3.2.2.2.2.2.2.2.2.2.2.1) s3.2.2.2.2.2.2.2.2.2.2.2.1 (Sts.mk s3.2.2.2.2.2.2.2.2.2.2.2.2.1 s3.2.2.2.2.2.2.2.2.2.2.2.2.2.1 s3.2.2.2.2.2.2.2.2.2.2.2.2.2.2.1 s3.2.2.2.2.2.2.2.2.2.2.2.2.2.2.2.1 s3.2.2.2.2.2.2.2.2.2.2.2.2.2.2.2.2.1 s3.2.2.2.2.2.2.2.2.2.2.2.2.2.2.2.2.2.1 s3.2.2.2.2.2.2.2.2.2.2.2.2.2.2.2.2.2.2.1 s3.2.2.2.2.2.2.2.2.2.2.2.2.2.2.2.2.2.2.2.1 s3.2.2.2.2.2.2.2.2.2.2.2.2.2.2.2.2.2.2.2.2.1) s3.2.2.2.2.2.2.2.2.2.2.2.2.2.2.2.2.2.2.2.2.2.1) p1).bind λv8 =>
 if v8=true then
 (some (.inl (())))
 else
 (XM (Cfg.mk s3.1 s3.2.1 s3.2.2.1) s3.2.2.2.2.2.2.1).bind λv10 =>
 if (v10.length:Int)=0 then
 (some (.inr (.out ((Hp.mk (Cfg.mk s3.1 s3.2.1 s3.2.2.1) (Sp.mk s3.2.2.2.1 s3.2.2.2.2.1 s3.2.2.2.2.2.1) s3.2.2.2.2.2.2.1 s3.2.2.2.2.2.2.2.1 s3.2.2.2.2.2.2.2.2.1 (Rts.mk s3.2.2.2.2.2.2.2.2.2.1 s3.2.2.2.2.2.2.2.2.2.2.1) s3.2.2.2.2.2.2.2.2.2.2.2.1 (Sts.mk s3.2.2.2.2.2.2.2.2.2.2.2.2.1 s3.2.2.2.2.2.2.2.2.2.2.2.2.2.1 s3.2.2.2.2.2.2.2.2.2.2.2.2.2.2.1 s3.2.2.2.2.2.2.2.2.2.2.2.2.2.2.2.1 s3.2.2.2.2.2.2.2.2.2.2.2.2.2.2.2.2.1 s3.2.2.2.2.2.2.2.2.2.2.2.2.2.2.2.2.2.1 s3.2.2.2.2.2.2.2.2.2.2.2.2.2.2.2.2.2.2.1 s3.2.2.2.2.2.2.2.2.2.2.2.2.2.2.2.2.2.2.2.1 s3.2.2.2.2.2.2.2.2.2.2.2.2.2.2.2.2.2.2.2.2.1) s3.2.2.2.2.2.2.2.2.2.2.2.2.2.2.2.2.2.2.2.2.2.1,false)))))
 else
 some (.inl (())))
 else
 some (.inl (()))) λ(b5:Unit) =>
 (ZR (Cfg.mk s3.1 s3.2.1 s3.2.2.1) (Sp.mk s3.2.2.2.1 s3.2.2.2.2.1 s3.2.2.2.2.2.1) s3.2.2.2.2.2.2.1 s3.2.2.2.2.2.2.2.2.2.2.2.2.2.2.2.2.2.2.2.2.2.2).bind λv12 =>
 if v12.2.2=true then
 (some (.out ((Hp.mk (Cfg.mk s3.1 s3.2.1 s3.2.2.1) (Sp.mk s3.2.2.2.1 s3.2.2.2.2.1 s3.2.2.2.2.2.1) s3.2.2.2.2.2.2.1 s3.2.2.2.2.2.2.2.1 s3.2.2.2.2.2.2.2.2.1 (Rts.mk s3.2.2.2.2.2.2.2.2.2.1 s3.2.2.2.2.2.2.2.2.2.2.1) 0 (Sts.mk s3.2.2.2.2.2.2.2.2.2.2.2.2.1 s3.2.2.2.2.2.2.2.2.2.2.2.2.2.1 s3.2.2.2.2.2.2.2.2.2.2.2.2.2.2.1 s3.2.2.2.2.2.2.2.2.2.2.2.2.2.2.2.1 (w64 (s3.2.2.2.2.2.2.2.2.2.2.2.2.2.2.2.2.1+1)) s3.2.2.2.2.2.2.2.2.2.2.2.2.2.2.2.2.2.1 s3.2.2.2.2.2.2.2.2.2.2.2.2.2.2.2.2.2.2.1 s3.2.2.2.2.2.2.2.2.2.2.2.2.2.2.2.2.2.2.2.1 s3.2.2.2.2.2.2.2.2.2.2.2.2.2.2.2.2.2.2.2.2.1) s3.2.2.2.2.2.2.2.2.2.2.2.2.2.2.2.2.2.2.2.2.2.1,true))))
 else
 if (v12.1.length:Int)=0 then
 (some (.out ((Hp.mk (Cfg.mk s3.1 s3.2.1 s3.2.2.1) (Sp.mk s3.2.2.2.1 s3.2.2.2.2.1 s3.2.2.2.2.2.1) s3.2.2.2.2.2.2.1 s3.2.2.2.2.2.2.2.1 s3.2.2.2.2.2.2.2.2.1 (Rts.mk s3.2.2.2.2.2.2.2.2.2.1 s3.2.2.2.2.2.2.2.2.2.2.1) s3.2.2.2.2.2.2.2.2.2.2.2.1 (Sts.mk s3.2.2.2.2.2.2.2.2.2.2.2.2.1 s3.2.2.2.2.2.2.2.2.2.2.2.2.2.1 s3.2.2.2.2.2.2.2.2.2.2.2.2.2.2.1 s3.2.2.2.2.2.2.2.2.2.2.2.2.2.2.2.1 s3.2.2.2.2.2.2.2.2.2.2.2.2.2.2.2.2.1 s3.2.2.2.2.2.2.2.2.2.2.2.2.2.2.2.2.2.1 s3.2.2.2.2.2.2.2.2.2.2.2.2.2.2.2.2.2.2.1 s3.2.2.2.2.2.2.2.2.2.2.2.2.2.2.2.2.2.2.2.1 s3.2.2.2.2.2.2.2.2.2.2.2.2.2.2.2.2.2.2.2.2.1) s3.2.2.2.2.2.2.2.2.2.2.2.2.2.2.2.2.2.2.2.2.2.1,false))))
 else
 (Jm (Hp.mk (Cfg.mk s3.1 s3.2.1 s3.2.2.1) (Sp.mk s3.2.2.2.1 s3.2.2.2.2.1 s3.2.2.2.2.2.1) s3.2.2.2.2.2.2.1 s3.2.2.2.2.2.2.2.1 s3.2.2.2.2.2.2.2.2.1 (Rts.mk s3.2.2.2.2.2.2.2.2.2.1 s3.2.2.2.2.2.2.2.2.2.2.1) s3.2.2.2.2.2.2.2.2.2.2.2.1 (Sts.mk s3.2.2.2.2.2.2.2.2.2.2.2.2.1 s3.2.2.2.2.2.2.2.2.2.2.2.2.2.1 s3.2.2.2.2.2.2.2.2.2.2.2.2.2.2.1 s3.2.2.2.2.2.2.2.2.2.2.2.2.2.2.2.1 s3.2.2.2.2.2.2.2.2.2.2.2.2.2.2.2.2.1 s3.2.2.2.2.2.2.2.2.2.2.2.2.2.2.2.2.2.1 s3.2.2.2.2.2.2.2.2.2.2.2.2.2.2.2.2.2.2.1 s3.2.2.2.2.2.2.2.2.2.2.2.2.2.2.2.2.2.2.2.1 s3.2.2.2.2.2.2.2.2.2.2.2.2.2.2.2.2.2.2.2.2.1) s3.2.2.2.2.2.2.2.2.2.2.2.2.2.2.2.2.2.2.2.2.2.1) v12.1).bind λv17 =>
 if v17.2.2=0 then
 (some (.go ((v17.1.config.name,v17.1.config.rules,v17.1.config.full,v17.1.space.sh,v17.1.space.ws,v17.1.space.fs,v17.1.belts,v17.1.seq,v17.1.sets,v17.1.roots.used,v17.1.roots.refs,v17.1.since,v17.1.stats.allocated,v17.1.stats.objects,v17.1.stats.collections,v17.1.stats.steps,v17.1.stats.rounds,v17.1.stats.condemned,v17.1.stats.copied,v17.1.stats.entries,v17.1.stats.work,v17.1.dead,v12.2.1))))
 else
 some (.out ((Hp.mk (Cfg.mk s3.1 s3.2.1 s3.2.2.1) (Sp.mk s3.2.2.2.1 s3.2.2.2.2.1 s3.2.2.2.2.2.1) s3.2.2.2.2.2.2.1 s3.2.2.2.2.2.2.2.1 s3.2.2.2.2.2.2.2.2.1 (Rts.mk s3.2.2.2.2.2.2.2.2.2.1 s3.2.2.2.2.2.2.2.2.2.2.1) s3.2.2.2.2.2.2.2.2.2.2.2.1 (Sts.mk s3.2.2.2.2.2.2.2.2.2.2.2.2.1 s3.2.2.2.2.2.2.2.2.2.2.2.2.2.1 s3.2.2.2.2.2.2.2.2.2.2.2.2.2.2.1 s3.2.2.2.2.2.2.2.2.2.2.2.2.2.2.2.1 s3.2.2.2.2.2.2.2.2.2.2.2.2.2.2.2.2.1 s3.2.2.2.2.2.2.2.2.2.2.2.2.2.2.2.2.2.1 s3.2.2.2.2.2.2.2.2.2.2.2.2.2.2.2.2.2.2.1 s3.2.2.2.2.2.2.2.2.2.2.2.2.2.2.2.2.2.2.2.1 s3.2.2.2.2.2.2.2.2.2.2.2.2.2.2.2.2.2.2.2.2.1) s3.2.2.2.2.2.2.2.2.2.2.2.2.2.2.2.2.2.2.2.2.2.1,false)))) (v1.config.name,v1.config.rules,v1.config.full,v1.space.sh,v1.space.ws,v1.space.fs,v1.belts,v1.seq,v1.sets,v1.roots.used,v1.roots.refs,v1.since,v1.stats.allocated,v1.stats.objects,v1.stats.collections,v1.stats.steps,v1.stats.rounds,v1.stats.condemned,v1.stats.copied,v1.stats.entries,v1.stats.work,v1.dead,Cur.mk 0 false 0)
theorem Qdu{p0 p1 r}:Sm (Zh p0 p1) r->DCall Tryz.prog 210 [.agg [.lit (.string p0.config.name),.sl (p0.config.rules.map Rul.c),DI p0.config.full,DI p0.space.sh,.sl (p0.space.ws.map uC),.sl (p0.space.fs.map frC),.sl (p0.belts.map (lC Inc.c)),DI p0.seq,.sl (p0.sets.map Qe.c),.sl (p0.roots.used.map bC),.sl (p0.roots.refs.map uC),DI p0.since,DI p0.stats.allocated,DI p0.stats.objects,DI p0.stats.collections,DI p0.stats.steps,DI p0.stats.rounds,DI p0.stats.condemned,DI p0.stats.copied,DI p0.stats.entries,DI p0.stats.work,DB p0.dead],DI p1] [] (.tup [.agg [.lit (.string r.1.config.name),.sl (r.1.config.rules.map Rul.c),DI r.1.config.full,DI r.1.space.sh,.sl (r.1.space.ws.map uC),.sl (r.1.space.fs.map frC),.sl (r.1.belts.map (lC Inc.c)),DI r.1.seq,.sl (r.1.sets.map Qe.c),.sl (r.1.roots.used.map bC),.sl (r.1.roots.refs.map uC),DI r.1.since,DI r.1.stats.allocated,DI r.1.stats.objects,DI r.1.stats.collections,DI r.1.stats.steps,DI r.1.stats.rounds,DI r.1.stats.condemned,DI r.1.stats.copied,DI r.1.stats.entries,DI r.1.stats.work,DB r.1.dead],DB r.2]) []:=by
 unfold Zh
 refine mk0 Tryz.func210 ?_
 refine ar ?_
 refine xd λv1 hv1=>?_
 have q0:=cG r0 (QP hv1)
 refine ar ?_
 refine ar ?_
 refine lP [1] [(2,λs3=>.ptr 0 0 0),(4,λs3=>.ptr 1 0 0),(6,λs3=>.ptr 9 0 0)] [1] [] [(0,λs3=>bO 22 [.lit (.string s3.1),.own 2 0 s3.2.1.length,DI s3.2.2.1,DI s3.2.2.2.1,.own 3 0 s3.2.2.2.2.1.length,.own 4 0 s3.2.2.2.2.2.1.length,.own 5 0 s3.2.2.2.2.2.2.1.length,DI s3.2.2.2.2.2.2.2.1,.sl (s3.2.2.2.2.2.2.2.2.1.map Qe.c),.own 7 0 s3.2.2.2.2.2.2.2.2.2.1.length,.own 8 0 s3.2.2.2.2.2.2.2.2.2.2.1.length,DI s3.2.2.2.2.2.2.2.2.2.2.2.1,DI s3.2.2.2.2.2.2.2.2.2.2.2.2.1,DI s3.2.2.2.2.2.2.2.2.2.2.2.2.2.1,DI s3.2.2.2.2.2.2.2.2.2.2.2.2.2.2.1,DI s3.2.2.2.2.2.2.2.2.2.2.2.2.2.2.2.1,DI s3.2.2.2.2.2.2.2.2.2.2.2.2.2.2.2.2.1,DI s3.2.2.2.2.2.2.2.2.2.2.2.2.2.2.2.2.2.1,DI s3.2.2.2.2.2.2.2.2.2.2.2.2.2.2.2.2.2.2.1,DI s3.2.2.2.2.2.2.2.2.2.2.2.2.2.2.2.2.2.2.2.1,DI s3.2.2.2.2.2.2.2.2.2.2.2.2.2.2.2.2.2.2.2.2.1,DB s3.2.2.2.2.2.2.2.2.2.2.2.2.2.2.2.2.2.2.2.2.2.1]),(2,λs3=>aO 4 (s3.2.1.map Rul.c)),(3,λs3=>aO 1 (s3.2.2.2.2.1.map uC)),(4,λs3=>aO 3 (s3.2.2.2.2.2.1.map frC)),(5,λs3=>aO 1 (s3.2.2.2.2.2.2.1.map (lC Inc.c))),(7,λs3=>aO 1 (s3.2.2.2.2.2.2.2.2.2.1.map bC)),(8,λs3=>aO 1 (s3.2.2.2.2.2.2.2.2.2.2.1.map uC)),(9,λs3=>bO 3 [DI s3.2.2.2.2.2.2.2.2.2.2.2.2.2.2.2.2.2.2.2.2.2.2.belt,DB s3.2.2.2.2.2.2.2.2.2.2.2.2.2.2.2.2.2.2.2.2.2.2.begun,DI s3.2.2.2.2.2.2.2.2.2.2.2.2.2.2.2.2.2.2.2.2.2.2.last])] 10 λs3 y4 hq4=>?_
 refine au ?_
 refine cU [1,2,4,6] [] [0,1,2,3,4,5,7,8,9] [] [] 10 (λz6 hr6=>?_) λb5=>?_
 refine xs (λh7=>?_) λh7=>?_
 refine xd λv8 hv8=>?_
 refine xs (λh9=>?_) λh9=>?_
 replace q0:=cS r0 (ZM hv8)
 refine ar ?_
 refine cb ?_
 exact wJ []
 refine xd λv10 hv10=>?_
 replace q0:=cS r0 (ZM hv8)
 have q1:=cS r0 (Qby hv10)
 refine ar ?_
 refine xs (λh11=>?_) λh11=>?_
 refine da ?_
 refine xr hr6 ?_
 refine xo hq4 ?_
 exact fwt r0
 refine cb ?_
 exact wJ []
 refine ar ?_
 refine cb ?_
 exact wJ []
 refine xd λv12 hv12=>?_
 replace q0:=cS r0 (Qax hv12)
 refine ar ?_
 refine ar ?_
 refine sq λK k=>?_
 refine ar ?_
 refine xs (λh14=>?_) λh14=>?_
 refine da ?_
 refine ar ?_
 refine ar ?_
 refine xo hq4 ?_
 exact fwt r0
 refine cb ?_
 refine sq λK k=>?_
 refine ar ?_
 refine xs (λh16=>?_) λh16=>?_
 refine da ?_
 refine xo hq4 ?_
 exact fwt r0
 refine cb ?_
 refine xd λv17 hv17=>?_
 replace q0:=cG r0 (F_ref25_Do_ok hv17)
 refine ar ?_
 refine sq λK k=>?_
 refine ar ?_
 refine xs (λh19=>?_) λh19=>?_
 refine db ?_
 exact wJ [(2,12),(3,13),(4,14),(5,15),(7,16),(8,17)]
 refine da ?_
 refine xo hq4 ?_
 exact fwt r0
noncomputable def Zu(p0:Hp)(p1:Int):Option (Hp×Bool) :=
 (Qw p0).bind λv1 =>
 Qi (λ(s3:ByteArray×List Rul×Int×Int×List Int×List Fe×List (List Inc)×Int×List Qe×List Bool×List Int×Int×Int×Int×Int×Int×Int×Int×Int×Int×Int×Bool×Cur) =>
 bndR (if 0 < p1 then
 ((Zg (Hp.mk (Cfg.mk s3.1 s3.2.1 s3.2.2.1) (Sp.mk s3.2.2.2.1 s3.2.2.2.2.1 s3.2.2.2.2.2.1) s3.2.2.2.2.2.2.1 s3.2.2.2.2.2.2.2.1 s3.2.2.2.2.2.2.2.2.1 (Rts.mk s3.2.2.2.2.2.2.2.2.2.1 s3.2.2.2.2.2.2.2.2.2.2.1) s3.2.2.2.2.2.2.2.2.2.2.2.1 (Sts.mk s3.2.2.2.2.2.2.2.2.2.2.2.2.1 s3.2.2.2.2.2.2.2.2.2.2.2.2.2.1 s3.2.2.2.2.2.2.2.2.2.2.2.2.2.2.1 s3.2.2.2.2.2.2.2.2.2.2.2.2.2.2.2.1 s3.2.2.2.2.2.2.2.2.2.2.2.2.2.2.2.2.1 s3.2.2.2.2.2.2.2.2.2.2.2.2.2.2.2.2.2.1 s3.2.2.2.2.2.2.2.2.2.2.2.2.2.2.2.2.2.2.1 s3.2.2.2.2.2.2.2.2.2.2.2.2.2.2.2.2.2.2.2.1 s3.2.2.2.2.2.2.2.2.2.2.2.2.2.2.2.2.2.2.2.2.1) s3.2.2.2.2.2.2.2.2.2.2.2.2.2.2.2.2.2.2.2.2.2.1) p1).bind λv8 =>
 if v8=true then
 (some (.inl (())))
 else
 (XM (Cfg.mk s3.1 s3.2.1 s3.2.2.1) s3.2.2.2.2.2.2.1).bind λv10 =>
 if (v10.length:Int)=0 then
 (some (.inr (.out ((Hp.mk (Cfg.mk s3.1 s3.2.1 s3.2.2.1) (Sp.mk s3.2.2.2.1 s3.2.2.2.2.1 s3.2.2.2.2.2.1) s3.2.2.2.2.2.2.1 s3.2.2.2.2.2.2.2.1 s3.2.2.2.2.2.2.2.2.1 (Rts.mk s3.2.2.2.2.2.2.2.2.2.1 s3.2.2.2.2.2.2.2.2.2.2.1) s3.2.2.2.2.2.2.2.2.2.2.2.1 (Sts.mk s3.2.2.2.2.2.2.2.2.2.2.2.2.1 s3.2.2.2.2.2.2.2.2.2.2.2.2.2.1 s3.2.2.2.2.2.2.2.2.2.2.2.2.2.2.1 s3.2.2.2.2.2.2.2.2.2.2.2.2.2.2.2.1 s3.2.2.2.2.2.2.2.2.2.2.2.2.2.2.2.2.1 s3.2.2.2.2.2.2.2.2.2.2.2.2.2.2.2.2.2.1 s3.2.2.2.2.2.2.2.2.2.2.2.2.2.2.2.2.2.2.1 s3.2.2.2.2.2.2.2.2.2.2.2.2.2.2.2.2.2.2.2.1 s3.2.2.2.2.2.2.2.2.2.2.2.2.2.2.2.2.2.2.2.2.1) s3.2.2.2.2.2.2.2.2.2.2.2.2.2.2.2.2.2.2.2.2.2.1,false)))))
 else
 some (.inl (())))
 else
 some (.inl (()))) λ(b5:Unit) =>
 (ZR (Cfg.mk s3.1 s3.2.1 s3.2.2.1) (Sp.mk s3.2.2.2.1 s3.2.2.2.2.1 s3.2.2.2.2.2.1) s3.2.2.2.2.2.2.1 s3.2.2.2.2.2.2.2.2.2.2.2.2.2.2.2.2.2.2.2.2.2.2).bind λv12 =>
 if v12.2.2=true then
 (some (.out ((Hp.mk (Cfg.mk s3.1 s3.2.1 s3.2.2.1) (Sp.mk s3.2.2.2.1 s3.2.2.2.2.1 s3.2.2.2.2.2.1) s3.2.2.2.2.2.2.1 s3.2.2.2.2.2.2.2.1 s3.2.2.2.2.2.2.2.2.1 (Rts.mk s3.2.2.2.2.2.2.2.2.2.1 s3.2.2.2.2.2.2.2.2.2.2.1) 0 (Sts.mk s3.2.2.2.2.2.2.2.2.2.2.2.2.1 s3.2.2.2.2.2.2.2.2.2.2.2.2.2.1 s3.2.2.2.2.2.2.2.2.2.2.2.2.2.2.1 s3.2.2.2.2.2.2.2.2.2.2.2.2.2.2.2.1 (w64 (s3.2.2.2.2.2.2.2.2.2.2.2.2.2.2.2.2.1+1)) s3.2.2.2.2.2.2.2.2.2.2.2.2.2.2.2.2.2.1 s3.2.2.2.2.2.2.2.2.2.2.2.2.2.2.2.2.2.2.1 s3.2.2.2.2.2.2.2.2.2.2.2.2.2.2.2.2.2.2.2.1 s3.2.2.2.2.2.2.2.2.2.2.2.2.2.2.2.2.2.2.2.2.1) s3.2.2.2.2.2.2.2.2.2.2.2.2.2.2.2.2.2.2.2.2.2.1,true))))
 else
 if (v12.1.length:Int)=0 then
 (some (.out ((Hp.mk (Cfg.mk s3.1 s3.2.1 s3.2.2.1) (Sp.mk s3.2.2.2.1 s3.2.2.2.2.1 s3.2.2.2.2.2.1) s3.2.2.2.2.2.2.1 s3.2.2.2.2.2.2.2.1 s3.2.2.2.2.2.2.2.2.1 (Rts.mk s3.2.2.2.2.2.2.2.2.2.1 s3.2.2.2.2.2.2.2.2.2.2.1) s3.2.2.2.2.2.2.2.2.2.2.2.1 (Sts.mk s3.2.2.2.2.2.2.2.2.2.2.2.2.1 s3.2.2.2.2.2.2.2.2.2.2.2.2.2.1 s3.2.2.2.2.2.2.2.2.2.2.2.2.2.2.1 s3.2.2.2.2.2.2.2.2.2.2.2.2.2.2.2.1 s3.2.2.2.2.2.2.2.2.2.2.2.2.2.2.2.2.1 s3.2.2.2.2.2.2.2.2.2.2.2.2.2.2.2.2.2.1 s3.2.2.2.2.2.2.2.2.2.2.2.2.2.2.2.2.2.2.1 s3.2.2.2.2.2.2.2.2.2.2.2.2.2.2.2.2.2.2.2.1 s3.2.2.2.2.2.2.2.2.2.2.2.2.2.2.2.2.2.2.2.2.1) s3.2.2.2.2.2.2.2.2.2.2.2.2.2.2.2.2.2.2.2.2.2.1,false))))
 else
 (Jw (Hp.mk (Cfg.mk s3.1 s3.2.1 s3.2.2.1) (Sp.mk s3.2.2.2.1 s3.2.2.2.2.1 s3.2.2.2.2.2.1) s3.2.2.2.2.2.2.1 s3.2.2.2.2.2.2.2.1 s3.2.2.2.2.2.2.2.2.1 (Rts.mk s3.2.2.2.2.2.2.2.2.2.1 s3.2.2.2.2.2.2.2.2.2.2.1) s3.2.2.2.2.2.2.2.2.2.2.2.1 (Sts.mk s3.2.2.2.2.2.2.2.2.2.2.2.2.1 s3.2.2.2.2.2.2.2.2.2.2.2.2.2.1 s3.2.2.2.2.2.2.2.2.2.2.2.2.2.2.1 s3.2.2.2.2.2.2.2.2.2.2.2.2.2.2.2.1 s3.2.2.2.2.2.2.2.2.2.2.2.2.2.2.2.2.1 s3.2.2.2.2.2.2.2.2.2.2.2.2.2.2.2.2.2.1 s3.2.2.2.2.2.2.2.2.2.2.2.2.2.2.2.2.2.2.1 s3.2.2.2.2.2.2.2.2.2.2.2.2.2.2.2.2.2.2.2.1 s3.2.2.2.2.2.2.2.2.2.2.2.2.2.2.2.2.2.2.2.2.1) s3.2.2.2.2.2.2.2.2.2.2.2.2.2.2.2.2.2.2.2.2.2.1) v12.1).bind λv17 =>
 if v17.2.2.2.1.length=s3.2.2.2.2.1.length then
 if v17.2.2.2.2.length=s3.2.2.2.2.2.1.length then
 if v17.2.2.1=0 then
 (some (.go ((v17.1.config.name,v17.1.config.rules,v17.1.config.full,v17.1.space.sh,v17.1.space.ws,v17.1.space.fs,v17.1.belts,v17.1.seq,v17.1.sets,v17.1.roots.used,v17.1.roots.refs,v17.1.since,v17.1.stats.allocated,v17.1.stats.objects,v17.1.stats.collections,v17.1.stats.steps,v17.1.stats.rounds,v17.1.stats.condemned,v17.1.stats.copied,v17.1.stats.entries,v17.1.stats.work,v17.1.dead,v12.2.1))))
 else
 some (.out ((Hp.mk (Cfg.mk s3.1 s3.2.1 s3.2.2.1) (Sp.mk s3.2.2.2.1 v17.2.2.2.1 v17.2.2.2.2) s3.2.2.2.2.2.2.1 s3.2.2.2.2.2.2.2.1 s3.2.2.2.2.2.2.2.2.1 (Rts.mk s3.2.2.2.2.2.2.2.2.2.1 s3.2.2.2.2.2.2.2.2.2.2.1) s3.2.2.2.2.2.2.2.2.2.2.2.1 (Sts.mk s3.2.2.2.2.2.2.2.2.2.2.2.2.1 s3.2.2.2.2.2.2.2.2.2.2.2.2.2.1 s3.2.2.2.2.2.2.2.2.2.2.2.2.2.2.1 s3.2.2.2.2.2.2.2.2.2.2.2.2.2.2.2.1 s3.2.2.2.2.2.2.2.2.2.2.2.2.2.2.2.2.1 s3.2.2.2.2.2.2.2.2.2.2.2.2.2.2.2.2.2.1 s3.2.2.2.2.2.2.2.2.2.2.2.2.2.2.2.2.2.2.1 s3.2.2.2.2.2.2.2.2.2.2.2.2.2.2.2.2.2.2.2.1 s3.2.2.2.2.2.2.2.2.2.2.2.2.2.2.2.2.2.2.2.2.1) s3.2.2.2.2.2.2.2.2.2.2.2.2.2.2.2.2.2.2.2.2.2.1,false)))
 else none
 else none) (v1.config.name,v1.config.rules,v1.config.full,v1.space.sh,v1.space.ws,v1.space.fs,v1.belts,v1.seq,v1.sets,v1.roots.used,v1.roots.refs,v1.since,v1.stats.allocated,v1.stats.objects,v1.stats.collections,v1.stats.steps,v1.stats.rounds,v1.stats.condemned,v1.stats.copied,v1.stats.entries,v1.stats.work,v1.dead,Cur.mk 0 false 0)
theorem Qab{p0 p1 r}:Sm (Zu p0 p1) r->DCall Tryz.prog 210 [.agg [.lit (.string p0.config.name),.sl (p0.config.rules.map Rul.c),DI p0.config.full,DI p0.space.sh,.sl (p0.space.ws.map uC),.sl (p0.space.fs.map frC),.sl (p0.belts.map (lC Inc.c)),DI p0.seq,.sl (p0.sets.map Qe.c),.sl (p0.roots.used.map bC),.sl (p0.roots.refs.map uC),DI p0.since,DI p0.stats.allocated,DI p0.stats.objects,DI p0.stats.collections,DI p0.stats.steps,DI p0.stats.rounds,DI p0.stats.condemned,DI p0.stats.copied,DI p0.stats.entries,DI p0.stats.work,DB p0.dead],DI p1] [] (.tup [.agg [.lit (.string r.1.config.name),.sl (r.1.config.rules.map Rul.c),DI r.1.config.full,DI r.1.space.sh,.own 0 0 r.1.space.ws.length,.own 1 0 r.1.space.fs.length,.sl (r.1.belts.map (lC Inc.c)),DI r.1.seq,.sl (r.1.sets.map Qe.c),.sl (r.1.roots.used.map bC),.sl (r.1.roots.refs.map uC),DI r.1.since,DI r.1.stats.allocated,DI r.1.stats.objects,DI r.1.stats.collections,DI r.1.stats.steps,DI r.1.stats.rounds,DI r.1.stats.condemned,DI r.1.stats.copied,DI r.1.stats.entries,DI r.1.stats.work,DB r.1.dead],DB r.2]) [(0,aO 1 (r.1.space.ws.map uC)),(1,aO 3 (r.1.space.fs.map frC))]:=by
 unfold Zu
 refine mk0 Tryz.func210 ?_
 refine ar ?_
 refine xd λv1 hv1=>?_
 have q0:=cG r0 (QP hv1)
 refine ar ?_
 refine ar ?_
 refine lP [1] [(2,λs3=>.ptr 0 0 0),(4,λs3=>.ptr 1 0 0),(6,λs3=>.ptr 9 0 0)] [1] [] [(0,λs3=>bO 22 [.lit (.string s3.1),.own 2 0 s3.2.1.length,DI s3.2.2.1,DI s3.2.2.2.1,.own 3 0 s3.2.2.2.2.1.length,.own 4 0 s3.2.2.2.2.2.1.length,.own 5 0 s3.2.2.2.2.2.2.1.length,DI s3.2.2.2.2.2.2.2.1,.sl (s3.2.2.2.2.2.2.2.2.1.map Qe.c),.own 7 0 s3.2.2.2.2.2.2.2.2.2.1.length,.own 8 0 s3.2.2.2.2.2.2.2.2.2.2.1.length,DI s3.2.2.2.2.2.2.2.2.2.2.2.1,DI s3.2.2.2.2.2.2.2.2.2.2.2.2.1,DI s3.2.2.2.2.2.2.2.2.2.2.2.2.2.1,DI s3.2.2.2.2.2.2.2.2.2.2.2.2.2.2.1,DI s3.2.2.2.2.2.2.2.2.2.2.2.2.2.2.2.1,DI s3.2.2.2.2.2.2.2.2.2.2.2.2.2.2.2.2.1,DI s3.2.2.2.2.2.2.2.2.2.2.2.2.2.2.2.2.2.1,DI s3.2.2.2.2.2.2.2.2.2.2.2.2.2.2.2.2.2.2.1,DI s3.2.2.2.2.2.2.2.2.2.2.2.2.2.2.2.2.2.2.2.1,DI s3.2.2.2.2.2.2.2.2.2.2.2.2.2.2.2.2.2.2.2.2.1,DB s3.2.2.2.2.2.2.2.2.2.2.2.2.2.2.2.2.2.2.2.2.2.1]),(2,λs3=>aO 4 (s3.2.1.map Rul.c)),(3,λs3=>aO 1 (s3.2.2.2.2.1.map uC)),(4,λs3=>aO 3 (s3.2.2.2.2.2.1.map frC)),(5,λs3=>aO 1 (s3.2.2.2.2.2.2.1.map (lC Inc.c))),(7,λs3=>aO 1 (s3.2.2.2.2.2.2.2.2.2.1.map bC)),(8,λs3=>aO 1 (s3.2.2.2.2.2.2.2.2.2.2.1.map uC)),(9,λs3=>bO 3 [DI s3.2.2.2.2.2.2.2.2.2.2.2.2.2.2.2.2.2.2.2.2.2.2.belt,DB s3.2.2.2.2.2.2.2.2.2.2.2.2.2.2.2.2.2.2.2.2.2.2.begun,DI s3.2.2.2.2.2.2.2.2.2.2.2.2.2.2.2.2.2.2.2.2.2.2.last])] 10 λs3 y4 hq4=>?_
 refine au ?_
 refine cU [1,2,4,6] [] [0,1,2,3,4,5,7,8,9] [] [] 10 (λz6 hr6=>?_) λb5=>?_
 refine xs (λh7=>?_) λh7=>?_
 refine xd λv8 hv8=>?_
 refine xs (λh9=>?_) λh9=>?_
 replace q0:=cS r0 (ZM hv8)
 refine ar ?_
 refine cb ?_
 exact wJ []
 refine xd λv10 hv10=>?_
 replace q0:=cS r0 (ZM hv8)
 have q1:=cS r0 (Qby hv10)
 refine ar ?_
 refine xs (λh11=>?_) λh11=>?_
 refine da ?_
 refine xr hr6 ?_
 refine xo hq4 ?_
 exact fwt [(0,3),(1,4)]
 refine cb ?_
 exact wJ []
 refine ar ?_
 refine cb ?_
 exact wJ []
 refine xd λv12 hv12=>?_
 replace q0:=cS r0 (Qax hv12)
 refine ar ?_
 refine ar ?_
 refine sq λK k=>?_
 refine ar ?_
 refine xs (λh14=>?_) λh14=>?_
 refine da ?_
 refine ar ?_
 refine ar ?_
 refine xo hq4 ?_
 exact fwt [(0,3),(1,4)]
 refine cb ?_
 refine sq λK k=>?_
 refine ar ?_
 refine xs (λh16=>?_) λh16=>?_
 refine da ?_
 refine xo hq4 ?_
 exact fwt [(0,3),(1,4)]
 refine cb ?_
 refine xd λv17 hv17=>?_
 refine xc λh21=>?_
 refine xc λh20=>?_
 replace q0:=cG [(0,3),(1,4)] (QeL hv17)
 refine ar ?_
 refine sq λK k=>?_
 refine ar ?_
 refine xs (λh19=>?_) λh19=>?_
 refine db ?_
 exact wJ [(2,12),(3,13),(4,14),(5,15),(7,16),(8,17)]
 refine da ?_
 refine xo hq4 ?_
 exact fwt [(0,3),(1,4)]
noncomputable def Z5(p0:Hp):Option (Hp×Bool) :=
 (Zh p0 0).bind λv1 =>
 some ((v1.1,v1.2))
theorem QeK{p0 r}:Sm (Z5 p0) r->DCall Tryz.prog 176 [.agg [.lit (.string p0.config.name),.sl (p0.config.rules.map Rul.c),DI p0.config.full,DI p0.space.sh,.sl (p0.space.ws.map uC),.sl (p0.space.fs.map frC),.sl (p0.belts.map (lC Inc.c)),DI p0.seq,.sl (p0.sets.map Qe.c),.sl (p0.roots.used.map bC),.sl (p0.roots.refs.map uC),DI p0.since,DI p0.stats.allocated,DI p0.stats.objects,DI p0.stats.collections,DI p0.stats.steps,DI p0.stats.rounds,DI p0.stats.condemned,DI p0.stats.copied,DI p0.stats.entries,DI p0.stats.work,DB p0.dead]] [] (.tup [.agg [.lit (.string r.1.config.name),.sl (r.1.config.rules.map Rul.c),DI r.1.config.full,DI r.1.space.sh,.sl (r.1.space.ws.map uC),.sl (r.1.space.fs.map frC),.sl (r.1.belts.map (lC Inc.c)),DI r.1.seq,.sl (r.1.sets.map Qe.c),.sl (r.1.roots.used.map bC),.sl (r.1.roots.refs.map uC),DI r.1.since,DI r.1.stats.allocated,DI r.1.stats.objects,DI r.1.stats.collections,DI r.1.stats.steps,DI r.1.stats.rounds,DI r.1.stats.condemned,DI r.1.stats.copied,DI r.1.stats.entries,DI r.1.stats.work,DB r.1.dead],DB r.2]) []:=by
 unfold Z5
 refine mk0 Tryz.func176 ?_
 refine ar ?_
 refine xd λv1 hv1=>?_
 have q0:=cG r0 (Qdu hv1)
 refine ar ?_
 exact fwt r0
noncomputable def ZP(p0:Hp):Option (Hp×Bool) :=
 (Zu p0 0).bind λv1 =>
 some ((v1.1,v1.2))
theorem Qau{p0 r}:Sm (ZP p0) r->DCall Tryz.prog 176 [.agg [.lit (.string p0.config.name),.sl (p0.config.rules.map Rul.c),DI p0.config.full,DI p0.space.sh,.sl (p0.space.ws.map uC),.sl (p0.space.fs.map frC),.sl (p0.belts.map (lC Inc.c)),DI p0.seq,.sl (p0.sets.map Qe.c),.sl (p0.roots.used.map bC),.sl (p0.roots.refs.map uC),DI p0.since,DI p0.stats.allocated,DI p0.stats.objects,DI p0.stats.collections,DI p0.stats.steps,DI p0.stats.rounds,DI p0.stats.condemned,DI p0.stats.copied,DI p0.stats.entries,DI p0.stats.work,DB p0.dead]] [] (.tup [.agg [.lit (.string r.1.config.name),.sl (r.1.config.rules.map Rul.c),DI r.1.config.full,DI r.1.space.sh,.own 0 0 r.1.space.ws.length,.own 1 0 r.1.space.fs.length,.sl (r.1.belts.map (lC Inc.c)),DI r.1.seq,.sl (r.1.sets.map Qe.c),.sl (r.1.roots.used.map bC),.sl (r.1.roots.refs.map uC),DI r.1.since,DI r.1.stats.allocated,DI r.1.stats.objects,DI r.1.stats.collections,DI r.1.stats.steps,DI r.1.stats.rounds,DI r.1.stats.condemned,DI r.1.stats.copied,DI r.1.stats.entries,DI r.1.stats.work,DB r.1.dead],DB r.2]) [(0,aO 1 (r.1.space.ws.map uC)),(1,aO 3 (r.1.space.fs.map frC))]:=by
 unfold ZP
 refine mk0 Tryz.func176 ?_
 refine ar ?_
 refine xd λv1 hv1=>?_
 have q0:=cG r0 (Qab hv1)
 refine ar ?_
 exact fwt [(0,2),(1,3)]
noncomputable def Zi(p0:Hp)(p1:Int):Option (Hp×Bool) :=
 (Zu p0 p1).bind λv1 =>
 (Zg v1.1 p1).bind λv2 =>
 some ((v1.1,!v2))
theorem Xw{p0 p1 r}:Sm (Zi p0 p1) r->DCall Tryz.prog 207 [.agg [.lit (.string p0.config.name),.sl (p0.config.rules.map Rul.c),DI p0.config.full,DI p0.space.sh,.sl (p0.space.ws.map uC),.sl (p0.space.fs.map frC),.sl (p0.belts.map (lC Inc.c)),DI p0.seq,.sl (p0.sets.map Qe.c),.sl (p0.roots.used.map bC),.sl (p0.roots.refs.map uC),DI p0.since,DI p0.stats.allocated,DI p0.stats.objects,DI p0.stats.collections,DI p0.stats.steps,DI p0.stats.rounds,DI p0.stats.condemned,DI p0.stats.copied,DI p0.stats.entries,DI p0.stats.work,DB p0.dead],DI p1] [] (.tup [.agg [.lit (.string r.1.config.name),.sl (r.1.config.rules.map Rul.c),DI r.1.config.full,DI r.1.space.sh,.own 0 0 r.1.space.ws.length,.own 1 0 r.1.space.fs.length,.sl (r.1.belts.map (lC Inc.c)),DI r.1.seq,.sl (r.1.sets.map Qe.c),.sl (r.1.roots.used.map bC),.sl (r.1.roots.refs.map uC),DI r.1.since,DI r.1.stats.allocated,DI r.1.stats.objects,DI r.1.stats.collections,DI r.1.stats.steps,DI r.1.stats.rounds,DI r.1.stats.condemned,DI r.1.stats.copied,DI r.1.stats.entries,DI r.1.stats.work,DB r.1.dead],DB r.2]) [(0,aO 1 (r.1.space.ws.map uC)),(1,aO 3 (r.1.space.fs.map frC))]:=by
 unfold Zi
 refine mk0 Tryz.func207 ?_
 refine ar ?_
 refine xd λv1 hv1=>?_
 have q0:=cG r0 (Qab hv1)
 refine ar ?_
 refine xd λv2 hv2=>?_
 replace q0:=cS r0 (ZM hv2)
 refine ar ?_
 exact fwt [(0,2),(1,3)]
noncomputable def X2(p0:Hp)(p1:Int)(p2:Int):Option (Hp×Int×Int) :=
 if p0.dead=true then
 (some ((Hp.mk (Cfg.mk ⟨#[]⟩ ([]:List Rul) 0) (Sp.mk 0 ([]:List Int) ([]:List Fe)) ([]:List (List Inc)) 0 ([]:List Qe) (Rts.mk ([]:List Bool) ([]:List Int)) 0 (Sts.mk 0 0 0 0 0 0 0 0 0) false,0,19)))
 else
 (Xc p1 p2).bind λv4 =>
 if v4.2=0 then
 ((Qw p0).bind λv6 =>
 (QA v6.config v6.space v6.belts v6.seq (w64 ((w64 (1+p1))+p2))).bind λv7 =>
 bndR (if v7.1=3 then
 ((QH v6.config).bind λv12 =>
 if v12=true then
 ((QH v6.config).bind λv15 =>
 if v15=true then
 (if v6.config.full<=(w64 (v6.since+1)) then
 ((ZP (Hp.mk v6.config v6.space v6.belts v6.seq v6.sets v6.roots (w64 (v6.since+1)) (Sts.mk v6.stats.allocated v6.stats.objects (w64 (v6.stats.collections+1)) v6.stats.steps v6.stats.rounds v6.stats.condemned v6.stats.copied v6.stats.entries v6.stats.work) v6.dead)).bind λv18 =>
 (QA v18.1.config v18.1.space v18.1.belts v18.1.seq (w64 ((w64 (1+p1))+p2))).bind λv19 =>
 if v19.1=3 then
 (some (.inr ((Hp.mk v18.1.config v18.1.space v18.1.belts v18.1.seq v18.1.sets v18.1.roots v18.1.since v18.1.stats true,0,18))))
 else
 some (.inl ((v18.1.config.name,v18.1.config.rules,v18.1.config.full,v18.1.space.sh,v18.1.space.ws,v18.1.space.fs,v18.1.belts,v18.1.seq,v18.1.sets,v18.1.roots.used,v18.1.roots.refs,v18.1.since,v18.1.stats.allocated,v18.1.stats.objects,v18.1.stats.collections,v18.1.stats.steps,v18.1.stats.rounds,v18.1.stats.condemned,v18.1.stats.copied,v18.1.stats.entries,v18.1.stats.work,v18.1.dead,v19.1,v19.2))))
 else
 (Zi (Hp.mk v6.config v6.space v6.belts v6.seq v6.sets v6.roots (w64 (v6.since+1)) (Sts.mk v6.stats.allocated v6.stats.objects (w64 (v6.stats.collections+1)) v6.stats.steps v6.stats.rounds v6.stats.condemned v6.stats.copied v6.stats.entries v6.stats.work) v6.dead) (w64 ((w64 (1+p1))+p2))).bind λv21 =>
 (QA v21.1.config v21.1.space v21.1.belts v21.1.seq (w64 ((w64 (1+p1))+p2))).bind λv22 =>
 if v22.1=3 then
 (some (.inr ((Hp.mk v21.1.config v21.1.space v21.1.belts v21.1.seq v21.1.sets v21.1.roots v21.1.since v21.1.stats true,0,18))))
 else
 some (.inl ((v21.1.config.name,v21.1.config.rules,v21.1.config.full,v21.1.space.sh,v21.1.space.ws,v21.1.space.fs,v21.1.belts,v21.1.seq,v21.1.sets,v21.1.roots.used,v21.1.roots.refs,v21.1.since,v21.1.stats.allocated,v21.1.stats.objects,v21.1.stats.collections,v21.1.stats.steps,v21.1.stats.rounds,v21.1.stats.condemned,v21.1.stats.copied,v21.1.stats.entries,v21.1.stats.work,v21.1.dead,v22.1,v22.2))))
 else
 (Zi (Hp.mk v6.config v6.space v6.belts v6.seq v6.sets v6.roots (w64 (v6.since+1)) (Sts.mk v6.stats.allocated v6.stats.objects (w64 (v6.stats.collections+1)) v6.stats.steps v6.stats.rounds v6.stats.condemned v6.stats.copied v6.stats.entries v6.stats.work) v6.dead) (w64 ((w64 (1+p1))+p2))).bind λv24 =>
 (QA v24.1.config v24.1.space v24.1.belts v24.1.seq (w64 ((w64 (1+p1))+p2))).bind λv25 =>
 if v25.1=3 then
 (some (.inr ((Hp.mk v24.1.config v24.1.space v24.1.belts v24.1.seq v24.1.sets v24.1.roots v24.1.since v24.1.stats true,0,18))))
 else
 some (.inl ((v24.1.config.name,v24.1.config.rules,v24.1.config.full,v24.1.space.sh,v24.1.space.ws,v24.1.space.fs,v24.1.belts,v24.1.seq,v24.1.sets,v24.1.roots.used,v24.1.roots.refs,v24.1.since,v24.1.stats.allocated,v24.1.stats.objects,v24.1.stats.collections,v24.1.stats.steps,v24.1.stats.rounds,v24.1.stats.condemned,v24.1.stats.copied,v24.1.stats.entries,v24.1.stats.work,v24.1.dead,v25.1,v25.2))))
 else
 (QH v6.config).bind λv28 =>
 if v28=true then
 (if v6.config.full<=v6.since then
 ((ZP (Hp.mk v6.config v6.space v6.belts v6.seq v6.sets v6.roots v6.since (Sts.mk v6.stats.allocated v6.stats.objects (w64 (v6.stats.collections+1)) v6.stats.steps v6.stats.rounds v6.stats.condemned v6.stats.copied v6.stats.entries v6.stats.work) v6.dead)).bind λv31 =>
 (QA v31.1.config v31.1.space v31.1.belts v31.1.seq (w64 ((w64 (1+p1))+p2))).bind λv32 =>
 if v32.1=3 then
 (some (.inr ((Hp.mk v31.1.config v31.1.space v31.1.belts v31.1.seq v31.1.sets v31.1.roots v31.1.since v31.1.stats true,0,18))))
 else
 some (.inl ((v31.1.config.name,v31.1.config.rules,v31.1.config.full,v31.1.space.sh,v31.1.space.ws,v31.1.space.fs,v31.1.belts,v31.1.seq,v31.1.sets,v31.1.roots.used,v31.1.roots.refs,v31.1.since,v31.1.stats.allocated,v31.1.stats.objects,v31.1.stats.collections,v31.1.stats.steps,v31.1.stats.rounds,v31.1.stats.condemned,v31.1.stats.copied,v31.1.stats.entries,v31.1.stats.work,v31.1.dead,v32.1,v32.2))))
 else
 (Zi (Hp.mk v6.config v6.space v6.belts v6.seq v6.sets v6.roots v6.since (Sts.mk v6.stats.allocated v6.stats.objects (w64 (v6.stats.collections+1)) v6.stats.steps v6.stats.rounds v6.stats.condemned v6.stats.copied v6.stats.entries v6.stats.work) v6.dead) (w64 ((w64 (1+p1))+p2))).bind λv34 =>
 (QA v34.1.config v34.1.space v34.1.belts v34.1.seq (w64 ((w64 (1+p1))+p2))).bind λv35 =>
 if v35.1=3 then
 (some (.inr ((Hp.mk v34.1.config v34.1.space v34.1.belts v34.1.seq v34.1.sets v34.1.roots v34.1.since v34.1.stats true,0,18))))
 else
 some (.inl ((v34.1.config.name,v34.1.config.rules,v34.1.config.full,v34.1.space.sh,v34.1.space.ws,v34.1.space.fs,v34.1.belts,v34.1.seq,v34.1.sets,v34.1.roots.used,v34.1.roots.refs,v34.1.since,v34.1.stats.allocated,v34.1.stats.objects,v34.1.stats.collections,v34.1.stats.steps,v34.1.stats.rounds,v34.1.stats.condemned,v34.1.stats.copied,v34.1.stats.entries,v34.1.stats.work,v34.1.dead,v35.1,v35.2))))
 else
 (Zi (Hp.mk v6.config v6.space v6.belts v6.seq v6.sets v6.roots v6.since (Sts.mk v6.stats.allocated v6.stats.objects (w64 (v6.stats.collections+1)) v6.stats.steps v6.stats.rounds v6.stats.condemned v6.stats.copied v6.stats.entries v6.stats.work) v6.dead) (w64 ((w64 (1+p1))+p2))).bind λv37 =>
 (QA v37.1.config v37.1.space v37.1.belts v37.1.seq (w64 ((w64 (1+p1))+p2))).bind λv38 =>
 if v38.1=3 then
 (some (.inr ((Hp.mk v37.1.config v37.1.space v37.1.belts v37.1.seq v37.1.sets v37.1.roots v37.1.since v37.1.stats true,0,18))))
 else
 some (.inl ((v37.1.config.name,v37.1.config.rules,v37.1.config.full,v37.1.space.sh,v37.1.space.ws,v37.1.space.fs,v37.1.belts,v37.1.seq,v37.1.sets,v37.1.roots.used,v37.1.roots.refs,v37.1.since,v37.1.stats.allocated,v37.1.stats.objects,v37.1.stats.collections,v37.1.stats.steps,v37.1.stats.rounds,v37.1.stats.condemned,v37.1.stats.copied,v37.1.stats.entries,v37.1.stats.work,v37.1.dead,v38.1,v38.2))))
 else
 some (.inl ((v6.config.name,v6.config.rules,v6.config.full,v6.space.sh,v6.space.ws,v6.space.fs,v6.belts,v6.seq,v6.sets,v6.roots.used,v6.roots.refs,v6.since,v6.stats.allocated,v6.stats.objects,v6.stats.collections,v6.stats.steps,v6.stats.rounds,v6.stats.condemned,v6.stats.copied,v6.stats.entries,v6.stats.work,v6.dead,v7.1,v7.2)))) λ(b8:ByteArray×List Rul×Int×Int×List Int×List Fe×List (List Inc)×Int×List Qe×List Bool×List Int×Int×Int×Int×Int×Int×Int×Int×Int×Int×Int×Bool×Int×Inc) =>
 (Xa (Sp.mk b8.2.2.2.1 b8.2.2.2.2.1 b8.2.2.2.2.2.1) b8.2.2.2.2.2.2.2.2.2.2.2.2.2.2.2.2.2.2.2.2.2.2.2 (w64 ((w64 (1+p1))+p2))).bind λv40 =>
 if v40.2.2.2.length=b8.2.2.2.2.2.1.length then
 if v40.2.2.1=0 then
 ((XP (Sp.mk b8.2.2.2.1 b8.2.2.2.2.1 v40.2.2.2) v40.2.1 p1 p2).bind λv43 =>
 if v43.2.length=b8.2.2.2.2.1.length then
 if b8.2.2.2.2.2.2.2.2.2.2.2.2.2.2.2.2.2.2.2.2.2.2.1=2 then
 ((Z9 b8.2.2.2.2.2.2.1 v40.1).bind λv46 =>
 some ((Hp.mk (Cfg.mk b8.1 b8.2.1 b8.2.2.1) (Sp.mk b8.2.2.2.1 v43.2 v40.2.2.2) v46.1 (w64 (b8.2.2.2.2.2.2.2.1+1)) b8.2.2.2.2.2.2.2.2.1 (Rts.mk b8.2.2.2.2.2.2.2.2.2.1 b8.2.2.2.2.2.2.2.2.2.2.1) b8.2.2.2.2.2.2.2.2.2.2.2.1 (Sts.mk (w64 (b8.2.2.2.2.2.2.2.2.2.2.2.2.1+(w64 ((w64 (1+p1))+p2)))) (w64 (b8.2.2.2.2.2.2.2.2.2.2.2.2.2.1+1)) b8.2.2.2.2.2.2.2.2.2.2.2.2.2.2.1 b8.2.2.2.2.2.2.2.2.2.2.2.2.2.2.2.1 b8.2.2.2.2.2.2.2.2.2.2.2.2.2.2.2.2.1 b8.2.2.2.2.2.2.2.2.2.2.2.2.2.2.2.2.2.1 b8.2.2.2.2.2.2.2.2.2.2.2.2.2.2.2.2.2.2.1 b8.2.2.2.2.2.2.2.2.2.2.2.2.2.2.2.2.2.2.2.1 b8.2.2.2.2.2.2.2.2.2.2.2.2.2.2.2.2.2.2.2.2.1) b8.2.2.2.2.2.2.2.2.2.2.2.2.2.2.2.2.2.2.2.2.2.1,v40.2.1,0)))
 else
 (QR b8.2.2.2.2.2.2.1 v40.1).bind λv47 =>
 some ((Hp.mk (Cfg.mk b8.1 b8.2.1 b8.2.2.1) (Sp.mk b8.2.2.2.1 v43.2 v40.2.2.2) v47.1 b8.2.2.2.2.2.2.2.1 b8.2.2.2.2.2.2.2.2.1 (Rts.mk b8.2.2.2.2.2.2.2.2.2.1 b8.2.2.2.2.2.2.2.2.2.2.1) b8.2.2.2.2.2.2.2.2.2.2.2.1 (Sts.mk (w64 (b8.2.2.2.2.2.2.2.2.2.2.2.2.1+(w64 ((w64 (1+p1))+p2)))) (w64 (b8.2.2.2.2.2.2.2.2.2.2.2.2.2.1+1)) b8.2.2.2.2.2.2.2.2.2.2.2.2.2.2.1 b8.2.2.2.2.2.2.2.2.2.2.2.2.2.2.2.1 b8.2.2.2.2.2.2.2.2.2.2.2.2.2.2.2.2.1 b8.2.2.2.2.2.2.2.2.2.2.2.2.2.2.2.2.2.1 b8.2.2.2.2.2.2.2.2.2.2.2.2.2.2.2.2.2.2.1 b8.2.2.2.2.2.2.2.2.2.2.2.2.2.2.2.2.2.2.2.1 b8.2.2.2.2.2.2.2.2.2.2.2.2.2.2.2.2.2.2.2.2.1) b8.2.2.2.2.2.2.2.2.2.2.2.2.2.2.2.2.2.2.2.2.2.1,v40.2.1,0))
 else none)
 else
 some ((Hp.mk (Cfg.mk b8.1 b8.2.1 b8.2.2.1) (Sp.mk b8.2.2.2.1 b8.2.2.2.2.1 v40.2.2.2) b8.2.2.2.2.2.2.1 b8.2.2.2.2.2.2.2.1 b8.2.2.2.2.2.2.2.2.1 (Rts.mk b8.2.2.2.2.2.2.2.2.2.1 b8.2.2.2.2.2.2.2.2.2.2.1) b8.2.2.2.2.2.2.2.2.2.2.2.1 (Sts.mk b8.2.2.2.2.2.2.2.2.2.2.2.2.1 b8.2.2.2.2.2.2.2.2.2.2.2.2.2.1 b8.2.2.2.2.2.2.2.2.2.2.2.2.2.2.1 b8.2.2.2.2.2.2.2.2.2.2.2.2.2.2.2.1 b8.2.2.2.2.2.2.2.2.2.2.2.2.2.2.2.2.1 b8.2.2.2.2.2.2.2.2.2.2.2.2.2.2.2.2.2.1 b8.2.2.2.2.2.2.2.2.2.2.2.2.2.2.2.2.2.2.1 b8.2.2.2.2.2.2.2.2.2.2.2.2.2.2.2.2.2.2.2.1 b8.2.2.2.2.2.2.2.2.2.2.2.2.2.2.2.2.2.2.2.2.1) true,0,18))
 else none)
 else
 some ((Hp.mk (Cfg.mk ⟨#[]⟩ ([]:List Rul) 0) (Sp.mk 0 ([]:List Int) ([]:List Fe)) ([]:List (List Inc)) 0 ([]:List Qe) (Rts.mk ([]:List Bool) ([]:List Int)) 0 (Sts.mk 0 0 0 0 0 0 0 0 0) false,0,v4.2))
theorem Qdt{p0 p1 p2 r}:Sm (X2 p0 p1 p2) r->DCall Tryz.prog 174 [.agg [.lit (.string p0.config.name),.sl (p0.config.rules.map Rul.c),DI p0.config.full,DI p0.space.sh,.sl (p0.space.ws.map uC),.sl (p0.space.fs.map frC),.sl (p0.belts.map (lC Inc.c)),DI p0.seq,.sl (p0.sets.map Qe.c),.sl (p0.roots.used.map bC),.sl (p0.roots.refs.map uC),DI p0.since,DI p0.stats.allocated,DI p0.stats.objects,DI p0.stats.collections,DI p0.stats.steps,DI p0.stats.rounds,DI p0.stats.condemned,DI p0.stats.copied,DI p0.stats.entries,DI p0.stats.work,DB p0.dead],DI p1,DI p2] [] (.tup [.agg [.lit (.string r.1.config.name),.sl (r.1.config.rules.map Rul.c),DI r.1.config.full,DI r.1.space.sh,.sl (r.1.space.ws.map uC),.sl (r.1.space.fs.map frC),.sl (r.1.belts.map (lC Inc.c)),DI r.1.seq,.sl (r.1.sets.map Qe.c),.sl (r.1.roots.used.map bC),.sl (r.1.roots.refs.map uC),DI r.1.since,DI r.1.stats.allocated,DI r.1.stats.objects,DI r.1.stats.collections,DI r.1.stats.steps,DI r.1.stats.rounds,DI r.1.stats.condemned,DI r.1.stats.copied,DI r.1.stats.entries,DI r.1.stats.work,DB r.1.dead],DI r.2.1,DI r.2.2]) []:=by
 unfold X2
 refine mk0 Tryz.func174 ?_
 refine ar ?_
 refine sq λK k=>?_
 refine ar ?_
 refine xs (λh2=>?_) λh2=>?_
 refine da ?_
 exact fwtt r0
 refine cb ?_
 refine sq λK k=>?_
 refine xd λv4 hv4=>?_
 have q0:=cS r0 (J0 hv4)
 refine ar ?_
 refine ar ?_
 refine xs (λh5=>?_) λh5=>?_
 refine db ?_
 refine xd λv6 hv6=>?_
 replace q0:=cG r0 (QP hv6)
 refine ar ?_
 refine xd λv7 hv7=>?_
 replace q0:=cS r0 (QQ hv7)
 refine ar ?_
 refine cU [1,2,11] [(6,λb8=>.ptr 1 0 0),(12,λb8=>.ptr 9 0 0),(13,λb8=>DI b8.2.2.2.2.2.2.2.2.2.2.2.2.2.2.2.2.2.2.2.2.2.2.1),(14,λb8=>.ptr 10 0 0)] [1] [] [(9,λb8=>bO 22 [.lit (.string b8.1),.sl (b8.2.1.map Rul.c),DI b8.2.2.1,DI b8.2.2.2.1,.own 11 0 b8.2.2.2.2.1.length,.own 12 0 b8.2.2.2.2.2.1.length,.sl (b8.2.2.2.2.2.2.1.map (lC Inc.c)),DI b8.2.2.2.2.2.2.2.1,.sl (b8.2.2.2.2.2.2.2.2.1.map Qe.c),.sl (b8.2.2.2.2.2.2.2.2.2.1.map bC),.sl (b8.2.2.2.2.2.2.2.2.2.2.1.map uC),DI b8.2.2.2.2.2.2.2.2.2.2.2.1,DI b8.2.2.2.2.2.2.2.2.2.2.2.2.1,DI b8.2.2.2.2.2.2.2.2.2.2.2.2.2.1,DI b8.2.2.2.2.2.2.2.2.2.2.2.2.2.2.1,DI b8.2.2.2.2.2.2.2.2.2.2.2.2.2.2.2.1,DI b8.2.2.2.2.2.2.2.2.2.2.2.2.2.2.2.2.1,DI b8.2.2.2.2.2.2.2.2.2.2.2.2.2.2.2.2.2.1,DI b8.2.2.2.2.2.2.2.2.2.2.2.2.2.2.2.2.2.2.1,DI b8.2.2.2.2.2.2.2.2.2.2.2.2.2.2.2.2.2.2.2.1,DI b8.2.2.2.2.2.2.2.2.2.2.2.2.2.2.2.2.2.2.2.2.1,DB b8.2.2.2.2.2.2.2.2.2.2.2.2.2.2.2.2.2.2.2.2.2.1]),(10,λb8=>bO 5 [DI b8.2.2.2.2.2.2.2.2.2.2.2.2.2.2.2.2.2.2.2.2.2.2.2.seq,DI b8.2.2.2.2.2.2.2.2.2.2.2.2.2.2.2.2.2.2.2.2.2.2.2.belt,DI b8.2.2.2.2.2.2.2.2.2.2.2.2.2.2.2.2.2.2.2.2.2.2.2.first,DI b8.2.2.2.2.2.2.2.2.2.2.2.2.2.2.2.2.2.2.2.2.2.2.2.last,DI b8.2.2.2.2.2.2.2.2.2.2.2.2.2.2.2.2.2.2.2.2.2.2.2.words]),(11,λb8=>aO 1 (b8.2.2.2.2.1.map uC)),(12,λb8=>aO 3 (b8.2.2.2.2.2.1.map frC))] 13 (λz9 hr9=>?_) λb8=>?_
 refine ar ?_
 refine xs (λh10=>?_) λh10=>?_
 refine da ?_
 refine sq λK k=>?_
 refine xd λv12 hv12=>?_
 replace q0:=cS r0 (QM hv12)
 refine ar ?_
 refine xs (λh13=>?_) λh13=>?_
 refine da ?_
 refine sq λK k=>?_
 refine xd λv15 hv15=>?_
 refine xs (λh16=>?_) λh16=>?_
 replace q0:=cS r0 (QM hv15)
 refine ar ?_
 refine xs (λh17=>?_) λh17=>?_
 refine ca ?_
 refine xd λv18 hv18=>?_
 replace q0:=cG r0 (Qau hv18)
 refine ar ?_
 refine xd λv19 hv19=>?_
 replace q0:=cS r0 (QQ hv19)
 refine ar ?_
 refine ar ?_
 refine xs (λh20=>?_) λh20=>?_
 refine da ?_
 refine ar ?_
 refine xr hr9 ?_
 exact fwtt r0
 refine cb ?_
 exact wJ []
 refine cb ?_
 refine xd λv21 hv21=>?_
 replace q0:=cG r0 (Xw hv21)
 refine ar ?_
 refine xd λv22 hv22=>?_
 replace q0:=cS r0 (QQ hv22)
 refine ar ?_
 refine ar ?_
 refine xs (λh23=>?_) λh23=>?_
 refine da ?_
 refine ar ?_
 refine xr hr9 ?_
 exact fwtt r0
 refine cb ?_
 exact wJ []
 replace q0:=cS r0 (QM hv15)
 refine ar ?_
 refine cb ?_
 refine xd λv24 hv24=>?_
 replace q0:=cG r0 (Xw hv24)
 refine ar ?_
 refine xd λv25 hv25=>?_
 replace q0:=cS r0 (QQ hv25)
 refine ar ?_
 refine ar ?_
 refine xs (λh26=>?_) λh26=>?_
 refine da ?_
 refine ar ?_
 refine xr hr9 ?_
 exact fwtt r0
 refine cb ?_
 exact wJ []
 refine cb ?_
 refine sq λK k=>?_
 refine xd λv28 hv28=>?_
 refine xs (λh29=>?_) λh29=>?_
 replace q0:=cS r0 (QM hv28)
 refine ar ?_
 refine xs (λh30=>?_) λh30=>?_
 refine ca ?_
 refine xd λv31 hv31=>?_
 replace q0:=cG r0 (Qau hv31)
 refine ar ?_
 refine xd λv32 hv32=>?_
 replace q0:=cS r0 (QQ hv32)
 refine ar ?_
 refine ar ?_
 refine xs (λh33=>?_) λh33=>?_
 refine da ?_
 refine ar ?_
 refine xr hr9 ?_
 exact fwtt r0
 refine cb ?_
 exact wJ []
 refine cb ?_
 refine xd λv34 hv34=>?_
 replace q0:=cG r0 (Xw hv34)
 refine ar ?_
 refine xd λv35 hv35=>?_
 replace q0:=cS r0 (QQ hv35)
 refine ar ?_
 refine ar ?_
 refine xs (λh36=>?_) λh36=>?_
 refine da ?_
 refine ar ?_
 refine xr hr9 ?_
 exact fwtt r0
 refine cb ?_
 exact wJ []
 replace q0:=cS r0 (QM hv28)
 refine ar ?_
 refine cb ?_
 refine xd λv37 hv37=>?_
 replace q0:=cG r0 (Xw hv37)
 refine ar ?_
 refine xd λv38 hv38=>?_
 replace q0:=cS r0 (QQ hv38)
 refine ar ?_
 refine ar ?_
 refine xs (λh39=>?_) λh39=>?_
 refine da ?_
 refine ar ?_
 refine xr hr9 ?_
 exact fwtt r0
 refine cb ?_
 exact wJ []
 refine cb ?_
 exact wJ [(11,3),(12,4)]
 refine xd λv40 hv40=>?_
 refine xc λh49=>?_
 replace q0:=cS [(0,12)] (QbB hv40)
 refine ar ?_
 refine sq λK k=>?_
 refine ar ?_
 refine xs (λh42=>?_) λh42=>?_
 refine cb ?_
 refine xd λv43 hv43=>?_
 refine xc λh48=>?_
 replace q0:=cS [(0,11)] (QeR hv43)
 refine ar ?_
 refine sq λK k=>?_
 refine ar ?_
 refine xs (λh45=>?_) λh45=>?_
 refine ca ?_
 refine xd λv46 hv46=>?_
 replace q0:=cG r0 (Qal hv46)
 refine ar ?_
 refine xx (Qt (Qb1 (s:=14) (xs:=v46.1) (cd:=(lD 5 Inc.c)) rfl (λ_=>rfl))) ?_
 refine xx (Qt (ZJ.flat (s:=14) (c:=(lC Inc.c)) rfl (λ_=>rfl) (λ_=>rfl))) ?_
 refine ar ?_
 refine ar ?_
 refine ar ?_
 refine ar ?_
 exact fwtt r0
 refine cb ?_
 refine xd λv47 hv47=>?_
 replace q0:=cG r0 (X8 hv47)
 refine ar ?_
 refine ar ?_
 refine xx (Qt (Qb1 (s:=14) (xs:=v47.1) (cd:=(lD 5 Inc.c)) rfl (λ_=>rfl))) ?_
 refine xx (Qt (ZJ.flat (s:=14) (c:=(lC Inc.c)) rfl (λ_=>rfl) (λ_=>rfl))) ?_
 refine ar ?_
 refine ar ?_
 exact fwtt r0
 refine da ?_
 refine ar ?_
 exact fwtt r0
 refine da ?_
 exact fwtt r0
noncomputable def Z4(p0:Hp):Option (Hp×Bool×Int) :=
 if p0.dead=true then
 (some ((Hp.mk (Cfg.mk ⟨#[]⟩ ([]:List Rul) 0) (Sp.mk 0 ([]:List Int) ([]:List Fe)) ([]:List (List Inc)) 0 ([]:List Qe) (Rts.mk ([]:List Bool) ([]:List Int)) 0 (Sts.mk 0 0 0 0 0 0 0 0 0) false,false,19)))
 else
 (Z5 (Hp.mk p0.config p0.space p0.belts p0.seq p0.sets p0.roots p0.since (Sts.mk p0.stats.allocated p0.stats.objects (w64 (p0.stats.collections+1)) p0.stats.steps p0.stats.rounds p0.stats.condemned p0.stats.copied p0.stats.entries p0.stats.work) p0.dead)).bind λv3 =>
 some ((v3.1,v3.2,0))
theorem QcH{p0 r}:Sm (Z4 p0) r->DCall Tryz.prog 135 [.agg [.lit (.string p0.config.name),.sl (p0.config.rules.map Rul.c),DI p0.config.full,DI p0.space.sh,.sl (p0.space.ws.map uC),.sl (p0.space.fs.map frC),.sl (p0.belts.map (lC Inc.c)),DI p0.seq,.sl (p0.sets.map Qe.c),.sl (p0.roots.used.map bC),.sl (p0.roots.refs.map uC),DI p0.since,DI p0.stats.allocated,DI p0.stats.objects,DI p0.stats.collections,DI p0.stats.steps,DI p0.stats.rounds,DI p0.stats.condemned,DI p0.stats.copied,DI p0.stats.entries,DI p0.stats.work,DB p0.dead]] [] (.tup [.agg [.lit (.string r.1.config.name),.sl (r.1.config.rules.map Rul.c),DI r.1.config.full,DI r.1.space.sh,.sl (r.1.space.ws.map uC),.sl (r.1.space.fs.map frC),.sl (r.1.belts.map (lC Inc.c)),DI r.1.seq,.sl (r.1.sets.map Qe.c),.sl (r.1.roots.used.map bC),.sl (r.1.roots.refs.map uC),DI r.1.since,DI r.1.stats.allocated,DI r.1.stats.objects,DI r.1.stats.collections,DI r.1.stats.steps,DI r.1.stats.rounds,DI r.1.stats.condemned,DI r.1.stats.copied,DI r.1.stats.entries,DI r.1.stats.work,DB r.1.dead],DB r.2.1,DI r.2.2]) []:=by
 unfold Z4
 refine mk0 Tryz.func135 ?_
 refine ar ?_
 refine sq λK k=>?_
 refine ar ?_
 refine xs (λh2=>?_) λh2=>?_
 refine da ?_
 exact fwtt r0
 refine db ?_
 refine xd λv3 hv3=>?_
 have q0:=cG r0 (QeK hv3)
 refine ar ?_
 refine ar ?_
 exact fwtt r0
noncomputable def X1(p0:Hp)(p1:AOp):Option (Hp×Ans) :=
 (Xc p1.a p1.b).bind λv2 =>
 if v2.2=0 then
 ((XG p0).bind λv5 =>
 if v5=true then
 ((Qp p0 15).bind λv7 =>
 some ((v7.1,v7.2)))
 else
 (X2 p0 p1.a p1.b).bind λv8 =>
 if v8.2.2=0 then
 ((XH v8.1.roots (wu (w64 (v8.2.1+1)))).bind λv11 =>
 (QV (Hp.mk v8.1.config v8.1.space v8.1.belts v8.1.seq v8.1.sets v11.1 v8.1.since v8.1.stats v8.1.dead) (wu v11.2.1)).bind λv12 =>
 some ((v12.1,v12.2)))
 else
 (Qp v8.1 v8.2.2).bind λv13 =>
 some ((v13.1,v13.2)))
 else
 (Qp p0 v2.2).bind λv14 =>
 some ((v14.1,v14.2))
theorem Qds{p0 p1 r}:Sm (X1 p0 p1) r->DCall Tryz.prog 134 [.agg [.lit (.string p0.config.name),.sl (p0.config.rules.map Rul.c),DI p0.config.full,DI p0.space.sh,.sl (p0.space.ws.map uC),.sl (p0.space.fs.map frC),.sl (p0.belts.map (lC Inc.c)),DI p0.seq,.sl (p0.sets.map Qe.c),.sl (p0.roots.used.map bC),.sl (p0.roots.refs.map uC),DI p0.since,DI p0.stats.allocated,DI p0.stats.objects,DI p0.stats.collections,DI p0.stats.steps,DI p0.stats.rounds,DI p0.stats.condemned,DI p0.stats.copied,DI p0.stats.entries,DI p0.stats.work,DB p0.dead],.agg [DI p1.code,DI p1.a,DI p1.b,DI p1.c_]] [] (.tup [.agg [.lit (.string r.1.config.name),.sl (r.1.config.rules.map Rul.c),DI r.1.config.full,DI r.1.space.sh,.sl (r.1.space.ws.map uC),.sl (r.1.space.fs.map frC),.sl (r.1.belts.map (lC Inc.c)),DI r.1.seq,.sl (r.1.sets.map Qe.c),.sl (r.1.roots.used.map bC),.sl (r.1.roots.refs.map uC),DI r.1.since,DI r.1.stats.allocated,DI r.1.stats.objects,DI r.1.stats.collections,DI r.1.stats.steps,DI r.1.stats.rounds,DI r.1.stats.condemned,DI r.1.stats.copied,DI r.1.stats.entries,DI r.1.stats.work,DB r.1.dead],.agg [DI r.2.err,DU r.2.value]]) []:=by
 unfold X1
 refine mk0 Tryz.func134 ?_
 refine ar ?_
 refine sq λK k=>?_
 refine xd λv2 hv2=>?_
 have q0:=cS r0 (J0 hv2)
 refine ar ?_
 refine ar ?_
 refine xs (λh3=>?_) λh3=>?_
 refine cb ?_
 refine sq λK k=>?_
 refine xd λv5 hv5=>?_
 replace q0:=cS r0 (Qbu hv5)
 refine ar ?_
 refine xs (λh6=>?_) λh6=>?_
 refine ca ?_
 refine xd λv7 hv7=>?_
 replace q0:=cG r0 (Ql hv7)
 refine ar ?_
 exact fww r0
 refine cb ?_
 refine xd λv8 hv8=>?_
 replace q0:=cG r0 (Qdt hv8)
 refine ar ?_
 refine sq λK k=>?_
 refine ar ?_
 refine xs (λh10=>?_) λh10=>?_
 refine db ?_
 refine xd λv11 hv11=>?_
 replace q0:=cS r0 (Qbv hv11)
 refine ar ?_
 refine xd λv12 hv12=>?_
 replace q0:=cG r0 (Qx hv12)
 refine ar ?_
 exact fww r0
 refine ca ?_
 refine xd λv13 hv13=>?_
 replace q0:=cG r0 (Ql hv13)
 refine ar ?_
 exact fww r0
 refine ca ?_
 refine xd λv14 hv14=>?_
 replace q0:=cG r0 (Ql hv14)
 refine ar ?_
 exact fww r0
noncomputable def Qat(p0:Hp)(p1:AOp):Option (Hp×Ans) :=
 if p1.code < 1 then
 (if p0.dead=true then
 (if p1.code=0 then
 ((Qp p0 20).bind λv6 =>
 some ((v6.1,v6.2)))
 else
 (Qp p0 19).bind λv7 =>
 some ((v7.1,v7.2)))
 else
 (Qp p0 20).bind λv8 =>
 some ((v8.1,v8.2)))
 else
 if 10 < p1.code then
 (if p0.dead=true then
 (if p1.code=0 then
 ((Qp p0 20).bind λv13 =>
 some ((v13.1,v13.2)))
 else
 (Qp p0 19).bind λv14 =>
 some ((v14.1,v14.2)))
 else
 (Qp p0 20).bind λv15 =>
 some ((v15.1,v15.2)))
 else
 if p0.dead=true then
 ((Qp p0 19).bind λv18 =>
 some ((v18.1,v18.2)))
 else
 if p1.code=1 then
 ((X1 p0 p1).bind λv21 =>
 some ((v21.1,v21.2)))
 else
 if p1.code=8 then
 ((Z4 p0).bind λv23 =>
 (QV v23.1 0).bind λv24 =>
 some ((v24.1,v24.2)))
 else
 if p1.code=10 then
 ((ZL p0).bind λv26 =>
 (QV p0 (wu v26)).bind λv27 =>
 some ((v27.1,v27.2)))
 else
 if p1.code=6 then
 ((Q2 p0 p1.a false).bind λv30 =>
 if v30=0 then
 ((Q2 p0 p1.b false).bind λv33 =>
 if v33=0 then
 ((Qz p0 p1.a).bind λv35 =>
 (Qz p0 p1.b).bind λv36 =>
 (XY (decide (v35=v36))).bind λv37 =>
 (QV p0 v37).bind λv38 =>
 some ((v38.1,v38.2)))
 else
 (Qp p0 v33).bind λv39 =>
 some ((v39.1,v39.2)))
 else
 (Qp p0 v30).bind λv40 =>
 some ((v40.1,v40.2)))
 else
 (Q2 p0 p1.a true).bind λv42 =>
 if v42=0 then
 (if p1.code=7 then
 ((Qw p0).bind λv46 =>
 (Jx v46.roots p1.a).bind λv47 =>
 (QV (Hp.mk v46.config v46.space v46.belts v46.seq v46.sets v47.1 v46.since v46.stats v46.dead) 0).bind λv48 =>
 some ((v48.1,v48.2)))
 else
 if p1.code=9 then
 ((Qz p0 p1.a).bind λv50 =>
 (Q4 p0.space (w64 ((w64 v50) - 1))).bind λv51 =>
 (QV p0 (wu (w64 ((w64 (256 * v51.1))+v51.2.1)))).bind λv52 =>
 some ((v52.1,v52.2)))
 else
 (XZ p0 p1).bind λv53 =>
 some ((v53.1,v53.2)))
 else
 (Qp p0 v42).bind λv54 =>
 some ((v54.1,v54.2))
theorem F_ref28_Do_ok{p0 p1 r}:Sm (Qat p0 p1) r->DCall Tryz.prog 88 [.agg [.lit (.string p0.config.name),.sl (p0.config.rules.map Rul.c),DI p0.config.full,DI p0.space.sh,.sl (p0.space.ws.map uC),.sl (p0.space.fs.map frC),.sl (p0.belts.map (lC Inc.c)),DI p0.seq,.sl (p0.sets.map Qe.c),.sl (p0.roots.used.map bC),.sl (p0.roots.refs.map uC),DI p0.since,DI p0.stats.allocated,DI p0.stats.objects,DI p0.stats.collections,DI p0.stats.steps,DI p0.stats.rounds,DI p0.stats.condemned,DI p0.stats.copied,DI p0.stats.entries,DI p0.stats.work,DB p0.dead],.agg [DI p1.code,DI p1.a,DI p1.b,DI p1.c_]] [] (.tup [.agg [.lit (.string r.1.config.name),.sl (r.1.config.rules.map Rul.c),DI r.1.config.full,DI r.1.space.sh,.sl (r.1.space.ws.map uC),.sl (r.1.space.fs.map frC),.sl (r.1.belts.map (lC Inc.c)),DI r.1.seq,.sl (r.1.sets.map Qe.c),.sl (r.1.roots.used.map bC),.sl (r.1.roots.refs.map uC),DI r.1.since,DI r.1.stats.allocated,DI r.1.stats.objects,DI r.1.stats.collections,DI r.1.stats.steps,DI r.1.stats.rounds,DI r.1.stats.condemned,DI r.1.stats.copied,DI r.1.stats.entries,DI r.1.stats.work,DB r.1.dead],.agg [DI r.2.err,DU r.2.value]]) []:=by
 unfold Qat
 refine mk0 Tryz.func88 ?_
 refine ar ?_
 refine sq λK k=>?_
 refine xs (λh2=>?_) λh2=>?_
 refine ar ?_
 refine ca ?_
 refine sq λK k=>?_
 refine xs (λh4=>?_) λh4=>?_
 refine ar ?_
 refine xs (λh5=>?_) λh5=>?_
 refine cb ?_
 refine xd λv6 hv6=>?_
 have q0:=cG r0 (Ql hv6)
 refine ar ?_
 exact fww r0
 refine ca ?_
 refine xd λv7 hv7=>?_
 have q0:=cG r0 (Ql hv7)
 refine ar ?_
 exact fww r0
 refine ar ?_
 refine cb ?_
 refine xd λv8 hv8=>?_
 have q0:=cG r0 (Ql hv8)
 refine ar ?_
 exact fww r0
 refine ar ?_
 refine xs (λh9=>?_) λh9=>?_
 refine ca ?_
 refine sq λK k=>?_
 refine xs (λh11=>?_) λh11=>?_
 refine ar ?_
 refine xs (λh12=>?_) λh12=>?_
 refine cb ?_
 refine xd λv13 hv13=>?_
 have q0:=cG r0 (Ql hv13)
 refine ar ?_
 exact fww r0
 refine ca ?_
 refine xd λv14 hv14=>?_
 have q0:=cG r0 (Ql hv14)
 refine ar ?_
 exact fww r0
 refine ar ?_
 refine cb ?_
 refine xd λv15 hv15=>?_
 have q0:=cG r0 (Ql hv15)
 refine ar ?_
 exact fww r0
 refine cb ?_
 refine sq λK k=>?_
 refine ar ?_
 refine xs (λh17=>?_) λh17=>?_
 refine ca ?_
 refine xd λv18 hv18=>?_
 have q0:=cG r0 (Ql hv18)
 refine ar ?_
 exact fww r0
 refine cb ?_
 refine sq λK k=>?_
 refine ar ?_
 refine ar ?_
 refine xs (λh20=>?_) λh20=>?_
 refine ca ?_
 refine xd λv21 hv21=>?_
 have q0:=cG r0 (Qds hv21)
 refine ar ?_
 exact fww r0
 refine db ?_
 refine xs (λh22=>?_) λh22=>?_
 refine ca ?_
 refine xd λv23 hv23=>?_
 have q0:=cG r0 (QcH hv23)
 refine ar ?_
 refine xd λv24 hv24=>?_
 replace q0:=cG r0 (Qx hv24)
 refine ar ?_
 exact fww r0
 refine db ?_
 refine xs (λh25=>?_) λh25=>?_
 refine ca ?_
 refine xd λv26 hv26=>?_
 refine xd λv27 hv27=>?_
 have q0:=cS r0 (Qcj hv26)
 have q1:=cG r0 (Qx hv27)
 refine ar ?_
 exact fww r0
 refine db ?_
 refine xs (λh28=>?_) λh28=>?_
 refine ca ?_
 refine sq λK k=>?_
 refine xd λv30 hv30=>?_
 have q0:=cS r0 (Xj hv30)
 refine ar ?_
 refine ar ?_
 refine xs (λh31=>?_) λh31=>?_
 refine cb ?_
 refine sq λK k=>?_
 refine xd λv33 hv33=>?_
 replace q0:=cS r0 (Xj hv33)
 refine ar ?_
 refine ar ?_
 refine xs (λh34=>?_) λh34=>?_
 refine cb ?_
 refine xd λv35 hv35=>?_
 refine xd λv36 hv36=>?_
 refine xd λv37 hv37=>?_
 refine xd λv38 hv38=>?_
 refine ar ?_
 refine goA (m_cS r0 (QO hv35) rfl ScS.nil) ?_
 refine au ?_
 refine goA (m_cS r0 (QO hv36) rfl ScS.nil) ?_
 refine au ?_
 refine goA (m_cS r0 (Qdq hv37) rfl ScS.nil) ?_
 refine goA (m_cG r0 (Qx hv38)) ?_
 refine au ?_
 exact fww r0
 refine ca ?_
 refine xd λv39 hv39=>?_
 replace q0:=cG r0 (Ql hv39)
 refine ar ?_
 exact fww r0
 refine ca ?_
 refine xd λv40 hv40=>?_
 replace q0:=cG r0 (Ql hv40)
 refine ar ?_
 exact fww r0
 refine cb ?_
 refine sq λK k=>?_
 refine xd λv42 hv42=>?_
 have q0:=cS r0 (Xj hv42)
 refine ar ?_
 refine ar ?_
 refine xs (λh43=>?_) λh43=>?_
 refine cb ?_
 refine sq λK k=>?_
 refine ar ?_
 refine ar ?_
 refine xs (λh45=>?_) λh45=>?_
 refine ca ?_
 refine xd λv46 hv46=>?_
 replace q0:=cG r0 (QP hv46)
 refine ar ?_
 refine xd λv47 hv47=>?_
 replace q0:=cS r0 (QeM hv47)
 refine ar ?_
 refine xd λv48 hv48=>?_
 replace q0:=cG r0 (Qx hv48)
 refine ar ?_
 exact fww r0
 refine db ?_
 refine xs (λh49=>?_) λh49=>?_
 refine ca ?_
 refine xd λv50 hv50=>?_
 refine xd λv51 hv51=>?_
 replace q0:=cS r0 (QO hv50)
 have q1:=cS r0 (Xb hv51)
 refine ar ?_
 refine xd λv52 hv52=>?_
 replace q0:=cG r0 (Qx hv52)
 refine ar ?_
 exact fww r0
 refine cb ?_
 refine xd λv53 hv53=>?_
 replace q0:=cG r0 (Qdr hv53)
 refine ar ?_
 exact fww r0
 refine ca ?_
 refine xd λv54 hv54=>?_
 replace q0:=cG r0 (Ql hv54)
 refine ar ?_
 exact fww r0
noncomputable def Ja(p0:Qc)(p1:Cfg):Option (Hp×Gra×Qc) :=
 (Qag p0).bind λv1 =>
 (JW p1 v1.1 v1.2.1).bind λv2 =>
 (JV).bind λv3 =>
 ((Qb v1.2.2 50).bind λv6 =>
 Qi (λ(s8:Qc×Hp×Gra×Int) =>
 if 0 < s8.2.2.2 then
 ((JG s8.1).bind λv12 =>
 if v12.1=true then
 ((QbE v12.2 s8.2.2.1).bind λv15 =>
 (Qat s8.2.1 v15.1).bind λv16 =>
 if v16.2.err=18 then
 (some (.go ((v15.2,s8.2.1,s8.2.2.1,w64 (s8.2.2.2 - 1)))))
 else
 (Qas s8.2.2.1 v15.1).bind λv19 =>
 some (.go ((v15.2,v16.1,v19.1,w64 (s8.2.2.2 - 1)))))
 else
 some (.out ((v12.2,s8.2.1,s8.2.2.1))))
 else
 some (.out ((s8.1,s8.2.1,s8.2.2.1)))) (v6.2,v2.1,v3,w64 (6+v6.1))).bind λ(b4:Qc×Hp×Gra) =>
 some ((b4.2.1,b4.2.2,b4.1))
theorem QdA{p0 p1 r}:Sm (Ja p0 p1) r->DCall Tryz.prog 44 [.ptr 0 0 0,.agg [.lit (.string p1.name),.sl (p1.rules.map Rul.c),DI p1.full]] [(0,bO 2 [.sl (p0.l.map iC),DI p0.pos])] (.tup [.agg [.lit (.string r.1.config.name),.sl (r.1.config.rules.map Rul.c),DI r.1.config.full,DI r.1.space.sh,.sl (r.1.space.ws.map uC),.sl (r.1.space.fs.map frC),.sl (r.1.belts.map (lC Inc.c)),DI r.1.seq,.sl (r.1.sets.map Qe.c),.sl (r.1.roots.used.map bC),.sl (r.1.roots.refs.map uC),DI r.1.since,DI r.1.stats.allocated,DI r.1.stats.objects,DI r.1.stats.collections,DI r.1.stats.steps,DI r.1.stats.rounds,DI r.1.stats.condemned,DI r.1.stats.copied,DI r.1.stats.entries,DI r.1.stats.work,DB r.1.dead],.agg [.sl (r.2.1.nodes.map Nod.c),.sl (r.2.1.used.map bC),.sl (r.2.1.roots.map iC)]]) [(0,bO 2 [.sl (r.2.2.l.map iC),DI r.2.2.pos])]:=by
 unfold Ja
 refine mk0 Tryz.func44 ?_
 refine ar ?_
 refine xd λv1 hv1=>?_
 have q0:=cG r1 (QeV hv1)
 refine ar ?_
 refine xd λv2 hv2=>?_
 replace q0:=cG r0 (F_ref27_New_ok hv2)
 refine ar ?_
 refine xd λv3 hv3=>?_
 replace q0:=cG r0 (F_ref29_New_ok hv3)
 refine ar ?_
 refine cT [] [(4,λb4=>.ptr 2 0 0),(5,λb4=>.ptr 3 0 0),(8,λb4=>.ptr 11 0 0),(10,λb4=>.ptr 15 0 0)] [2,3] [] [(0,λb4=>bO 2 [.sl (b4.1.l.map iC),DI b4.1.pos]),(11,λb4=>bO 22 [.lit (.string b4.2.1.config.name),.sl (b4.2.1.config.rules.map Rul.c),DI b4.2.1.config.full,DI b4.2.1.space.sh,.sl (b4.2.1.space.ws.map uC),.sl (b4.2.1.space.fs.map frC),.sl (b4.2.1.belts.map (lC Inc.c)),DI b4.2.1.seq,.sl (b4.2.1.sets.map Qe.c),.sl (b4.2.1.roots.used.map bC),.sl (b4.2.1.roots.refs.map uC),DI b4.2.1.since,DI b4.2.1.stats.allocated,DI b4.2.1.stats.objects,DI b4.2.1.stats.collections,DI b4.2.1.stats.steps,DI b4.2.1.stats.rounds,DI b4.2.1.stats.condemned,DI b4.2.1.stats.copied,DI b4.2.1.stats.entries,DI b4.2.1.stats.work,DB b4.2.1.dead]),(15,λb4=>bO 3 [.sl (b4.2.2.nodes.map Nod.c),.sl (b4.2.2.used.map bC),.sl (b4.2.2.roots.map iC)])] 16 (λz5=>?_) λb4=>?_
 refine xd λv6 hv6=>?_
 replace q0:=cG r1 (Qa hv6)
 refine ar ?_
 refine lP [0] [(4,λs8=>.ptr 2 0 0),(5,λs8=>.ptr 3 0 0),(8,λs8=>.ptr 11 0 0),(10,λs8=>.ptr 15 0 0),(11,λs8=>DI s8.2.2.2)] [2,3] [] [(0,λs8=>bO 2 [.sl (s8.1.l.map iC),DI s8.1.pos]),(11,λs8=>bO 22 [.lit (.string s8.2.1.config.name),.sl (s8.2.1.config.rules.map Rul.c),DI s8.2.1.config.full,DI s8.2.1.space.sh,.sl (s8.2.1.space.ws.map uC),.sl (s8.2.1.space.fs.map frC),.sl (s8.2.1.belts.map (lC Inc.c)),DI s8.2.1.seq,.sl (s8.2.1.sets.map Qe.c),.sl (s8.2.1.roots.used.map bC),.sl (s8.2.1.roots.refs.map uC),DI s8.2.1.since,DI s8.2.1.stats.allocated,DI s8.2.1.stats.objects,DI s8.2.1.stats.collections,DI s8.2.1.stats.steps,DI s8.2.1.stats.rounds,DI s8.2.1.stats.condemned,DI s8.2.1.stats.copied,DI s8.2.1.stats.entries,DI s8.2.1.stats.work,DB s8.2.1.dead]),(15,λs8=>bO 3 [.sl (s8.2.2.1.nodes.map Nod.c),.sl (s8.2.2.1.used.map bC),.sl (s8.2.2.1.roots.map iC)])] 16 λs8 y9 hq9=>?_
 refine sq λK k=>?_
 refine xs (λh11=>?_) λh11=>?_
 refine xd λv12 hv12=>?_
 replace q0:=cG r1 (Qck hv12)
 refine ar ?_
 refine xs (λh13=>?_) λh13=>?_
 refine ca ?_
 refine sq λK k=>?_
 refine au ?_
 refine xd λv15 hv15=>?_
 replace q0:=cG r1 (F_make_Op_ok hv15)
 refine ar ?_
 refine xd λv16 hv16=>?_
 replace q0:=cG r0 (F_ref28_Do_ok hv16)
 refine ar ?_
 refine sq λK k=>?_
 refine ar ?_
 refine xs (λh18=>?_) λh18=>?_
 refine da ?_
 exact wJ []
 refine db ?_
 refine xd λv19 hv19=>?_
 replace q0:=cG r0 (F_ref29_Do_ok hv19)
 refine ar ?_
 refine ar ?_
 exact wJ []
 refine cb ?_
 refine xo hq9 ?_
 exact wJ []
 refine ar ?_
 refine cb ?_
 refine xo hq9 ?_
 exact wJ []
 refine ar ?_
 exact fww r1
noncomputable def J2(p0:Qc):Option (Hp×Gra×Qc) :=
 (Jb p0).bind λv1 =>
 (Ja v1.2 v1.1).bind λv2 =>
 some ((v2.1,v2.2.1,v2.2.2))
theorem F_make_Heap_ok{p0 r}:Sm (J2 p0) r->DCall Tryz.prog 11 [.ptr 0 0 0] [(0,bO 2 [.sl (p0.l.map iC),DI p0.pos])] (.tup [.agg [.lit (.string r.1.config.name),.sl (r.1.config.rules.map Rul.c),DI r.1.config.full,DI r.1.space.sh,.sl (r.1.space.ws.map uC),.sl (r.1.space.fs.map frC),.sl (r.1.belts.map (lC Inc.c)),DI r.1.seq,.sl (r.1.sets.map Qe.c),.sl (r.1.roots.used.map bC),.sl (r.1.roots.refs.map uC),DI r.1.since,DI r.1.stats.allocated,DI r.1.stats.objects,DI r.1.stats.collections,DI r.1.stats.steps,DI r.1.stats.rounds,DI r.1.stats.condemned,DI r.1.stats.copied,DI r.1.stats.entries,DI r.1.stats.work,DB r.1.dead],.agg [.sl (r.2.1.nodes.map Nod.c),.sl (r.2.1.used.map bC),.sl (r.2.1.roots.map iC)]]) [(0,bO 2 [.sl (r.2.2.l.map iC),DI r.2.2.pos])]:=by
 unfold J2
 refine mk0 Tryz.func11 ?_
 refine ar ?_
 refine xd λv1 hv1=>?_
 refine xd λv2 hv2=>?_
 have q0:=cG r1 (QdB hv1)
 have q1:=cG r1 (QdA hv2)
 refine ar ?_
 exact fww r1
end Go.Proofs.YthpnlnjdmlbnaaaGreatDoor
