/- Parts of the proof. No condition. -/
import Derived.Test.YtkfnkecgcdhncaaGreatQM0
import Derived.Test.YtkfnkecgcdhncaaGreatQM4
import Derived.Test.YtkfnkecgcdhncaaGreatQM5
import Derived.Test.YtkfnkecgcdhncaaGreatQM6
import Derived.Test.YtkfnkecgcdhncaaGreatQM7
import Derived.Test.YtkfnkecgcdhncaaGreatQM8
import Derived.Test.YtkfnkecgcdhncaaGreatQM9
import Derived.Test.YtkfnkecgcdhncaaGreatQM10
import Derived.Test.YtkfnkecgcdhncaaGreatQM11
namespace Go.Proofs.YtkfnkecgcdhncaaGreat
open Go.RowKit
set_option linter.unusedSimpArgs false
set_option linter.unusedVariables false
set_option maxRecDepth 20000
set_option maxHeartbeats 40000000
noncomputable def JN(p0:Hp)(p1:Int)(p2:Int):Option (Hp×Int×Int) :=
 if p0.dead=true then
 (some ((Hp.mk (Cfg.mk ⟨#[]⟩ ([]:List Rul) 0) (Sp.mk 0 ([]:List Int) ([]:List Fe)) ([]:List (List Inc)) 0 ([]:List Qe) (Rts.mk ([]:List Bool) ([]:List Int)) 0 (Sts.mk 0 0 0 0 0 0 0 0 0) false,0,19)))
 else
 (XP p1 p2).bind λv4 =>
 if v4.2=0 then
 ((QH p0).bind λv6 =>
 (QL v6.config v6.space v6.belts v6.seq (w64 ((w64 (1+p1))+p2))).bind λv7 =>
 bndR (if v7.1=3 then
 ((QR v6.config).bind λv12 =>
 if v12=true then
 ((QR v6.config).bind λv15 =>
 if v15=true then
 (if v6.config.full<=(w64 (v6.since+1)) then
 ((Xi (Hp.mk v6.config v6.space v6.belts v6.seq v6.sets v6.roots (w64 (v6.since+1)) (Sts.mk v6.stats.allocated v6.stats.objects (w64 (v6.stats.collections+1)) v6.stats.steps v6.stats.rounds v6.stats.condemned v6.stats.copied v6.stats.entries v6.stats.work) v6.dead)).bind λv18 =>
 (QL v18.1.config v18.1.space v18.1.belts v18.1.seq (w64 ((w64 (1+p1))+p2))).bind λv19 =>
 if v19.1=3 then
 (some (.inr ((Hp.mk v18.1.config v18.1.space v18.1.belts v18.1.seq v18.1.sets v18.1.roots v18.1.since v18.1.stats true,0,18))))
 else
 some (.inl ((v18.1.config.name,v18.1.config.rules,v18.1.config.full,v18.1.space.sh,v18.1.space.ws,v18.1.space.fs,v18.1.belts,v18.1.seq,v18.1.sets,v18.1.roots.used,v18.1.roots.refs,v18.1.since,v18.1.stats.allocated,v18.1.stats.objects,v18.1.stats.collections,v18.1.stats.steps,v18.1.stats.rounds,v18.1.stats.condemned,v18.1.stats.copied,v18.1.stats.entries,v18.1.stats.work,v18.1.dead,v19.1,v19.2))))
 else
 (Zy (Hp.mk v6.config v6.space v6.belts v6.seq v6.sets v6.roots (w64 (v6.since+1)) (Sts.mk v6.stats.allocated v6.stats.objects (w64 (v6.stats.collections+1)) v6.stats.steps v6.stats.rounds v6.stats.condemned v6.stats.copied v6.stats.entries v6.stats.work) v6.dead) (w64 ((w64 (1+p1))+p2))).bind λv21 =>
 (QL v21.1.config v21.1.space v21.1.belts v21.1.seq (w64 ((w64 (1+p1))+p2))).bind λv22 =>
 if v22.1=3 then
 (some (.inr ((Hp.mk v21.1.config v21.1.space v21.1.belts v21.1.seq v21.1.sets v21.1.roots v21.1.since v21.1.stats true,0,18))))
 else
 some (.inl ((v21.1.config.name,v21.1.config.rules,v21.1.config.full,v21.1.space.sh,v21.1.space.ws,v21.1.space.fs,v21.1.belts,v21.1.seq,v21.1.sets,v21.1.roots.used,v21.1.roots.refs,v21.1.since,v21.1.stats.allocated,v21.1.stats.objects,v21.1.stats.collections,v21.1.stats.steps,v21.1.stats.rounds,v21.1.stats.condemned,v21.1.stats.copied,v21.1.stats.entries,v21.1.stats.work,v21.1.dead,v22.1,v22.2))))
 else
 (Zy (Hp.mk v6.config v6.space v6.belts v6.seq v6.sets v6.roots (w64 (v6.since+1)) (Sts.mk v6.stats.allocated v6.stats.objects (w64 (v6.stats.collections+1)) v6.stats.steps v6.stats.rounds v6.stats.condemned v6.stats.copied v6.stats.entries v6.stats.work) v6.dead) (w64 ((w64 (1+p1))+p2))).bind λv24 =>
 (QL v24.1.config v24.1.space v24.1.belts v24.1.seq (w64 ((w64 (1+p1))+p2))).bind λv25 =>
 if v25.1=3 then
 (some (.inr ((Hp.mk v24.1.config v24.1.space v24.1.belts v24.1.seq v24.1.sets v24.1.roots v24.1.since v24.1.stats true,0,18))))
 else
 some (.inl ((v24.1.config.name,v24.1.config.rules,v24.1.config.full,v24.1.space.sh,v24.1.space.ws,v24.1.space.fs,v24.1.belts,v24.1.seq,v24.1.sets,v24.1.roots.used,v24.1.roots.refs,v24.1.since,v24.1.stats.allocated,v24.1.stats.objects,v24.1.stats.collections,v24.1.stats.steps,v24.1.stats.rounds,v24.1.stats.condemned,v24.1.stats.copied,v24.1.stats.entries,v24.1.stats.work,v24.1.dead,v25.1,v25.2))))
 else
 (QR v6.config).bind λv28 =>
 if v28=true then
 (if v6.config.full<=v6.since then
 ((Xi (Hp.mk v6.config v6.space v6.belts v6.seq v6.sets v6.roots v6.since (Sts.mk v6.stats.allocated v6.stats.objects (w64 (v6.stats.collections+1)) v6.stats.steps v6.stats.rounds v6.stats.condemned v6.stats.copied v6.stats.entries v6.stats.work) v6.dead)).bind λv31 =>
 (QL v31.1.config v31.1.space v31.1.belts v31.1.seq (w64 ((w64 (1+p1))+p2))).bind λv32 =>
 if v32.1=3 then
 (some (.inr ((Hp.mk v31.1.config v31.1.space v31.1.belts v31.1.seq v31.1.sets v31.1.roots v31.1.since v31.1.stats true,0,18))))
 else
 some (.inl ((v31.1.config.name,v31.1.config.rules,v31.1.config.full,v31.1.space.sh,v31.1.space.ws,v31.1.space.fs,v31.1.belts,v31.1.seq,v31.1.sets,v31.1.roots.used,v31.1.roots.refs,v31.1.since,v31.1.stats.allocated,v31.1.stats.objects,v31.1.stats.collections,v31.1.stats.steps,v31.1.stats.rounds,v31.1.stats.condemned,v31.1.stats.copied,v31.1.stats.entries,v31.1.stats.work,v31.1.dead,v32.1,v32.2))))
 else
 (Zy (Hp.mk v6.config v6.space v6.belts v6.seq v6.sets v6.roots v6.since (Sts.mk v6.stats.allocated v6.stats.objects (w64 (v6.stats.collections+1)) v6.stats.steps v6.stats.rounds v6.stats.condemned v6.stats.copied v6.stats.entries v6.stats.work) v6.dead) (w64 ((w64 (1+p1))+p2))).bind λv34 =>
 (QL v34.1.config v34.1.space v34.1.belts v34.1.seq (w64 ((w64 (1+p1))+p2))).bind λv35 =>
 if v35.1=3 then
 (some (.inr ((Hp.mk v34.1.config v34.1.space v34.1.belts v34.1.seq v34.1.sets v34.1.roots v34.1.since v34.1.stats true,0,18))))
 else
 some (.inl ((v34.1.config.name,v34.1.config.rules,v34.1.config.full,v34.1.space.sh,v34.1.space.ws,v34.1.space.fs,v34.1.belts,v34.1.seq,v34.1.sets,v34.1.roots.used,v34.1.roots.refs,v34.1.since,v34.1.stats.allocated,v34.1.stats.objects,v34.1.stats.collections,v34.1.stats.steps,v34.1.stats.rounds,v34.1.stats.condemned,v34.1.stats.copied,v34.1.stats.entries,v34.1.stats.work,v34.1.dead,v35.1,v35.2))))
 else
 (Zy (Hp.mk v6.config v6.space v6.belts v6.seq v6.sets v6.roots v6.since (Sts.mk v6.stats.allocated v6.stats.objects (w64 (v6.stats.collections+1)) v6.stats.steps v6.stats.rounds v6.stats.condemned v6.stats.copied v6.stats.entries v6.stats.work) v6.dead) (w64 ((w64 (1+p1))+p2))).bind λv37 =>
 (QL v37.1.config v37.1.space v37.1.belts v37.1.seq (w64 ((w64 (1+p1))+p2))).bind λv38 =>
 if v38.1=3 then
 (some (.inr ((Hp.mk v37.1.config v37.1.space v37.1.belts v37.1.seq v37.1.sets v37.1.roots v37.1.since v37.1.stats true,0,18))))
 else
 some (.inl ((v37.1.config.name,v37.1.config.rules,v37.1.config.full,v37.1.space.sh,v37.1.space.ws,v37.1.space.fs,v37.1.belts,v37.1.seq,v37.1.sets,v37.1.roots.used,v37.1.roots.refs,v37.1.since,v37.1.stats.allocated,v37.1.stats.objects,v37.1.stats.collections,v37.1.stats.steps,v37.1.stats.rounds,v37.1.stats.condemned,v37.1.stats.copied,v37.1.stats.entries,v37.1.stats.work,v37.1.dead,v38.1,v38.2))))
 else
 some (.inl ((v6.config.name,v6.config.rules,v6.config.full,v6.space.sh,v6.space.ws,v6.space.fs,v6.belts,v6.seq,v6.sets,v6.roots.used,v6.roots.refs,v6.since,v6.stats.allocated,v6.stats.objects,v6.stats.collections,v6.stats.steps,v6.stats.rounds,v6.stats.condemned,v6.stats.copied,v6.stats.entries,v6.stats.work,v6.dead,v7.1,v7.2)))) λ(b8:ByteArray×List Rul×Int×Int×List Int×List Fe×List (List Inc)×Int×List Qe×List Bool×List Int×Int×Int×Int×Int×Int×Int×Int×Int×Int×Int×Bool×Int×Inc) =>
 (XN (Sp.mk b8.2.2.2.1 b8.2.2.2.2.1 b8.2.2.2.2.2.1) b8.2.2.2.2.2.2.2.2.2.2.2.2.2.2.2.2.2.2.2.2.2.2.2 (w64 ((w64 (1+p1))+p2))).bind λv40 =>
 if v40.2.2.2.length=b8.2.2.2.2.2.1.length then
 if v40.2.2.1=0 then
 ((Jy (Sp.mk b8.2.2.2.1 b8.2.2.2.2.1 v40.2.2.2) v40.2.1 p1 p2).bind λv43 =>
 if v43.2.length=b8.2.2.2.2.1.length then
 if b8.2.2.2.2.2.2.2.2.2.2.2.2.2.2.2.2.2.2.2.2.2.2.1=2 then
 ((XM b8.2.2.2.2.2.2.1 v40.1).bind λv46 =>
 some ((Hp.mk (Cfg.mk b8.1 b8.2.1 b8.2.2.1) (Sp.mk b8.2.2.2.1 v43.2 v40.2.2.2) v46.1 (w64 (b8.2.2.2.2.2.2.2.1+1)) b8.2.2.2.2.2.2.2.2.1 (Rts.mk b8.2.2.2.2.2.2.2.2.2.1 b8.2.2.2.2.2.2.2.2.2.2.1) b8.2.2.2.2.2.2.2.2.2.2.2.1 (Sts.mk (w64 (b8.2.2.2.2.2.2.2.2.2.2.2.2.1+(w64 ((w64 (1+p1))+p2)))) (w64 (b8.2.2.2.2.2.2.2.2.2.2.2.2.2.1+1)) b8.2.2.2.2.2.2.2.2.2.2.2.2.2.2.1 b8.2.2.2.2.2.2.2.2.2.2.2.2.2.2.2.1 b8.2.2.2.2.2.2.2.2.2.2.2.2.2.2.2.2.1 b8.2.2.2.2.2.2.2.2.2.2.2.2.2.2.2.2.2.1 b8.2.2.2.2.2.2.2.2.2.2.2.2.2.2.2.2.2.2.1 b8.2.2.2.2.2.2.2.2.2.2.2.2.2.2.2.2.2.2.2.1 b8.2.2.2.2.2.2.2.2.2.2.2.2.2.2.2.2.2.2.2.2.1) b8.2.2.2.2.2.2.2.2.2.2.2.2.2.2.2.2.2.2.2.2.2.1,v40.2.1,0)))
 else
 (Q4 b8.2.2.2.2.2.2.1 v40.1).bind λv47 =>
 some ((Hp.mk (Cfg.mk b8.1 b8.2.1 b8.2.2.1) (Sp.mk b8.2.2.2.1 v43.2 v40.2.2.2) v47.1 b8.2.2.2.2.2.2.2.1 b8.2.2.2.2.2.2.2.2.1 (Rts.mk b8.2.2.2.2.2.2.2.2.2.1 b8.2.2.2.2.2.2.2.2.2.2.1) b8.2.2.2.2.2.2.2.2.2.2.2.1 (Sts.mk (w64 (b8.2.2.2.2.2.2.2.2.2.2.2.2.1+(w64 ((w64 (1+p1))+p2)))) (w64 (b8.2.2.2.2.2.2.2.2.2.2.2.2.2.1+1)) b8.2.2.2.2.2.2.2.2.2.2.2.2.2.2.1 b8.2.2.2.2.2.2.2.2.2.2.2.2.2.2.2.1 b8.2.2.2.2.2.2.2.2.2.2.2.2.2.2.2.2.1 b8.2.2.2.2.2.2.2.2.2.2.2.2.2.2.2.2.2.1 b8.2.2.2.2.2.2.2.2.2.2.2.2.2.2.2.2.2.2.1 b8.2.2.2.2.2.2.2.2.2.2.2.2.2.2.2.2.2.2.2.1 b8.2.2.2.2.2.2.2.2.2.2.2.2.2.2.2.2.2.2.2.2.1) b8.2.2.2.2.2.2.2.2.2.2.2.2.2.2.2.2.2.2.2.2.2.1,v40.2.1,0))
 else none)
 else
 some ((Hp.mk (Cfg.mk b8.1 b8.2.1 b8.2.2.1) (Sp.mk b8.2.2.2.1 b8.2.2.2.2.1 v40.2.2.2) b8.2.2.2.2.2.2.1 b8.2.2.2.2.2.2.2.1 b8.2.2.2.2.2.2.2.2.1 (Rts.mk b8.2.2.2.2.2.2.2.2.2.1 b8.2.2.2.2.2.2.2.2.2.2.1) b8.2.2.2.2.2.2.2.2.2.2.2.1 (Sts.mk b8.2.2.2.2.2.2.2.2.2.2.2.2.1 b8.2.2.2.2.2.2.2.2.2.2.2.2.2.1 b8.2.2.2.2.2.2.2.2.2.2.2.2.2.2.1 b8.2.2.2.2.2.2.2.2.2.2.2.2.2.2.2.1 b8.2.2.2.2.2.2.2.2.2.2.2.2.2.2.2.2.1 b8.2.2.2.2.2.2.2.2.2.2.2.2.2.2.2.2.2.1 b8.2.2.2.2.2.2.2.2.2.2.2.2.2.2.2.2.2.2.1 b8.2.2.2.2.2.2.2.2.2.2.2.2.2.2.2.2.2.2.2.1 b8.2.2.2.2.2.2.2.2.2.2.2.2.2.2.2.2.2.2.2.2.1) true,0,18))
 else none)
 else
 some ((Hp.mk (Cfg.mk ⟨#[]⟩ ([]:List Rul) 0) (Sp.mk 0 ([]:List Int) ([]:List Fe)) ([]:List (List Inc)) 0 ([]:List Qe) (Rts.mk ([]:List Bool) ([]:List Int)) 0 (Sts.mk 0 0 0 0 0 0 0 0 0) false,0,v4.2))
theorem Qe4{p0 p1 p2 r}:Sm (JN p0 p1 p2) r->DCall Tryz.prog 107 [.agg [.lit (.string p0.config.name),.sl (p0.config.rules.map Rul.c),DI p0.config.full,DI p0.space.sh,.sl (p0.space.ws.map uC),.sl (p0.space.fs.map frC),.sl (p0.belts.map (lC Inc.c)),DI p0.seq,.sl (p0.sets.map Qe.c),.sl (p0.roots.used.map bC),.sl (p0.roots.refs.map uC),DI p0.since,DI p0.stats.allocated,DI p0.stats.objects,DI p0.stats.collections,DI p0.stats.steps,DI p0.stats.rounds,DI p0.stats.condemned,DI p0.stats.copied,DI p0.stats.entries,DI p0.stats.work,DB p0.dead],DI p1,DI p2] [] (.tup [.agg [.lit (.string r.1.config.name),.sl (r.1.config.rules.map Rul.c),DI r.1.config.full,DI r.1.space.sh,.sl (r.1.space.ws.map uC),.sl (r.1.space.fs.map frC),.sl (r.1.belts.map (lC Inc.c)),DI r.1.seq,.sl (r.1.sets.map Qe.c),.sl (r.1.roots.used.map bC),.sl (r.1.roots.refs.map uC),DI r.1.since,DI r.1.stats.allocated,DI r.1.stats.objects,DI r.1.stats.collections,DI r.1.stats.steps,DI r.1.stats.rounds,DI r.1.stats.condemned,DI r.1.stats.copied,DI r.1.stats.entries,DI r.1.stats.work,DB r.1.dead],DI r.2.1,DI r.2.2]) []:=by
 unfold JN
 &mk0 Tryz.func107 ?_
 &ar ?_
 &sq λK k=>?_
 &ar ?_
 &xs (λh2=>?_) λh2=>?_
 &da ?_
 ~fwtt r0
 &cb ?_
 &sq λK k=>?_
 &xd λv4 hv4=>?_
 have q0:=cS r0 (Qa2 hv4)
 &ar ?_
 &ar ?_
 &xs (λh5=>?_) λh5=>?_
 &db ?_
 &xd λv6 hv6=>?_
 replace q0:=cG r0 (Q2 hv6)
 &ar ?_
 &xd λv7 hv7=>?_
 replace q0:=cS r0 (Q3 hv7)
 &ar ?_
 &cU [1,2,11] [(6,λb8=>.ptr 1 0 0),(12,λb8=>.ptr 9 0 0),(13,λb8=>DI b8.2.2.2.2.2.2.2.2.2.2.2.2.2.2.2.2.2.2.2.2.2.2.1),(14,λb8=>.ptr 10 0 0)] [1] [] [(9,λb8=>bO 22 [.lit (.string b8.1),.sl (b8.2.1.map Rul.c),DI b8.2.2.1,DI b8.2.2.2.1,.own 11 0 b8.2.2.2.2.1.length,.own 12 0 b8.2.2.2.2.2.1.length,.sl (b8.2.2.2.2.2.2.1.map (lC Inc.c)),DI b8.2.2.2.2.2.2.2.1,.sl (b8.2.2.2.2.2.2.2.2.1.map Qe.c),.sl (b8.2.2.2.2.2.2.2.2.2.1.map bC),.sl (b8.2.2.2.2.2.2.2.2.2.2.1.map uC),DI b8.2.2.2.2.2.2.2.2.2.2.2.1,DI b8.2.2.2.2.2.2.2.2.2.2.2.2.1,DI b8.2.2.2.2.2.2.2.2.2.2.2.2.2.1,DI b8.2.2.2.2.2.2.2.2.2.2.2.2.2.2.1,DI b8.2.2.2.2.2.2.2.2.2.2.2.2.2.2.2.1,DI b8.2.2.2.2.2.2.2.2.2.2.2.2.2.2.2.2.1,DI b8.2.2.2.2.2.2.2.2.2.2.2.2.2.2.2.2.2.1,DI b8.2.2.2.2.2.2.2.2.2.2.2.2.2.2.2.2.2.2.1,DI b8.2.2.2.2.2.2.2.2.2.2.2.2.2.2.2.2.2.2.2.1,DI b8.2.2.2.2.2.2.2.2.2.2.2.2.2.2.2.2.2.2.2.2.1,DB b8.2.2.2.2.2.2.2.2.2.2.2.2.2.2.2.2.2.2.2.2.2.1]),(10,λb8=>bO 5 [DI b8.2.2.2.2.2.2.2.2.2.2.2.2.2.2.2.2.2.2.2.2.2.2.2.seq,DI b8.2.2.2.2.2.2.2.2.2.2.2.2.2.2.2.2.2.2.2.2.2.2.2.belt,DI b8.2.2.2.2.2.2.2.2.2.2.2.2.2.2.2.2.2.2.2.2.2.2.2.first,DI b8.2.2.2.2.2.2.2.2.2.2.2.2.2.2.2.2.2.2.2.2.2.2.2.last,DI b8.2.2.2.2.2.2.2.2.2.2.2.2.2.2.2.2.2.2.2.2.2.2.2.words]),(11,λb8=>aO 1 (b8.2.2.2.2.1.map uC)),(12,λb8=>aO 3 (b8.2.2.2.2.2.1.map frC))] 13 (λz9 hr9=>?_) λb8=>?_
 &ar ?_
 &xs (λh10=>?_) λh10=>?_
 &da ?_
 &sq λK k=>?_
 &xd λv12 hv12=>?_
 replace q0:=cS r0 (QX hv12)
 &ar ?_
 &xs (λh13=>?_) λh13=>?_
 &da ?_
 &sq λK k=>?_
 &xd λv15 hv15=>?_
 &xs (λh16=>?_) λh16=>?_
 replace q0:=cS r0 (QX hv15)
 &ar ?_
 &xs (λh17=>?_) λh17=>?_
 &ca ?_
 &xd λv18 hv18=>?_
 replace q0:=cG r0 (QbC hv18)
 &ar ?_
 &xd λv19 hv19=>?_
 replace q0:=cS r0 (Q3 hv19)
 &ar ?_
 &ar ?_
 &xs (λh20=>?_) λh20=>?_
 &da ?_
 &ar ?_
 &xr hr9 ?_
 ~fwtt r0
 &cb ?_
 ~wJ []
 &cb ?_
 &xd λv21 hv21=>?_
 replace q0:=cG r0 (Ji hv21)
 &ar ?_
 &xd λv22 hv22=>?_
 replace q0:=cS r0 (Q3 hv22)
 &ar ?_
 &ar ?_
 &xs (λh23=>?_) λh23=>?_
 &da ?_
 &ar ?_
 &xr hr9 ?_
 ~fwtt r0
 &cb ?_
 ~wJ []
 replace q0:=cS r0 (QX hv15)
 &ar ?_
 &cb ?_
 &xd λv24 hv24=>?_
 replace q0:=cG r0 (Ji hv24)
 &ar ?_
 &xd λv25 hv25=>?_
 replace q0:=cS r0 (Q3 hv25)
 &ar ?_
 &ar ?_
 &xs (λh26=>?_) λh26=>?_
 &da ?_
 &ar ?_
 &xr hr9 ?_
 ~fwtt r0
 &cb ?_
 ~wJ []
 &cb ?_
 &sq λK k=>?_
 &xd λv28 hv28=>?_
 &xs (λh29=>?_) λh29=>?_
 replace q0:=cS r0 (QX hv28)
 &ar ?_
 &xs (λh30=>?_) λh30=>?_
 &ca ?_
 &xd λv31 hv31=>?_
 replace q0:=cG r0 (QbC hv31)
 &ar ?_
 &xd λv32 hv32=>?_
 replace q0:=cS r0 (Q3 hv32)
 &ar ?_
 &ar ?_
 &xs (λh33=>?_) λh33=>?_
 &da ?_
 &ar ?_
 &xr hr9 ?_
 ~fwtt r0
 &cb ?_
 ~wJ []
 &cb ?_
 &xd λv34 hv34=>?_
 replace q0:=cG r0 (Ji hv34)
 &ar ?_
 &xd λv35 hv35=>?_
 replace q0:=cS r0 (Q3 hv35)
 &ar ?_
 &ar ?_
 &xs (λh36=>?_) λh36=>?_
 &da ?_
 &ar ?_
 &xr hr9 ?_
 ~fwtt r0
 &cb ?_
 ~wJ []
 replace q0:=cS r0 (QX hv28)
 &ar ?_
 &cb ?_
 &xd λv37 hv37=>?_
 replace q0:=cG r0 (Ji hv37)
 &ar ?_
 &xd λv38 hv38=>?_
 replace q0:=cS r0 (Q3 hv38)
 &ar ?_
 &ar ?_
 &xs (λh39=>?_) λh39=>?_
 &da ?_
 &ar ?_
 &xr hr9 ?_
 ~fwtt r0
 &cb ?_
 ~wJ []
 &cb ?_
 ~wJ [(11,3),(12,4)]
 &xd λv40 hv40=>?_
 &xc λh49=>?_
 replace q0:=cS [(0,12)] (QcM hv40)
 &ar ?_
 &sq λK k=>?_
 &ar ?_
 &xs (λh42=>?_) λh42=>?_
 &cb ?_
 &xd λv43 hv43=>?_
 &xc λh48=>?_
 replace q0:=cS [(0,11)] (QgC hv43)
 &ar ?_
 &sq λK k=>?_
 &ar ?_
 &xs (λh45=>?_) λh45=>?_
 &ca ?_
 &xd λv46 hv46=>?_
 replace q0:=cG r0 (Qbt hv46)
 &ar ?_
 &xx (Qp (Qcq (s:=14) (xs:=v46.1) (cd:=(lD 5 Inc.c)) rfl (λ_=>rfl))) ?_
 &xx (Qp (ZM.flat (s:=14) (c:=(lC Inc.c)) rfl (λ_=>rfl) (λ_=>rfl))) ?_
 &ar ?_
 &ar ?_
 &ar ?_
 &ar ?_
 ~fwtt r0
 &cb ?_
 &xd λv47 hv47=>?_
 replace q0:=cG r0 (JT hv47)
 &ar ?_
 &ar ?_
 &xx (Qp (Qcq (s:=14) (xs:=v47.1) (cd:=(lD 5 Inc.c)) rfl (λ_=>rfl))) ?_
 &xx (Qp (ZM.flat (s:=14) (c:=(lC Inc.c)) rfl (λ_=>rfl) (λ_=>rfl))) ?_
 &ar ?_
 &ar ?_
 ~fwtt r0
 &da ?_
 &ar ?_
 ~fwtt r0
 &da ?_
 ~fwtt r0
noncomputable def XF(p0:Hp):Option (Hp×Bool×Int) :=
 if p0.dead=true then
 (some ((Hp.mk (Cfg.mk ⟨#[]⟩ ([]:List Rul) 0) (Sp.mk 0 ([]:List Int) ([]:List Fe)) ([]:List (List Inc)) 0 ([]:List Qe) (Rts.mk ([]:List Bool) ([]:List Int)) 0 (Sts.mk 0 0 0 0 0 0 0 0 0) false,false,19)))
 else
 (XG (Hp.mk p0.config p0.space p0.belts p0.seq p0.sets p0.roots p0.since (Sts.mk p0.stats.allocated p0.stats.objects (w64 (p0.stats.collections+1)) p0.stats.steps p0.stats.rounds p0.stats.condemned p0.stats.copied p0.stats.entries p0.stats.work) p0.dead)).bind λv3 =>
 some ((v3.1,v3.2,0))
theorem Qd9{p0 r}:Sm (XF p0) r->DCall Tryz.prog 66 [.agg [.lit (.string p0.config.name),.sl (p0.config.rules.map Rul.c),DI p0.config.full,DI p0.space.sh,.sl (p0.space.ws.map uC),.sl (p0.space.fs.map frC),.sl (p0.belts.map (lC Inc.c)),DI p0.seq,.sl (p0.sets.map Qe.c),.sl (p0.roots.used.map bC),.sl (p0.roots.refs.map uC),DI p0.since,DI p0.stats.allocated,DI p0.stats.objects,DI p0.stats.collections,DI p0.stats.steps,DI p0.stats.rounds,DI p0.stats.condemned,DI p0.stats.copied,DI p0.stats.entries,DI p0.stats.work,DB p0.dead]] [] (.tup [.agg [.lit (.string r.1.config.name),.sl (r.1.config.rules.map Rul.c),DI r.1.config.full,DI r.1.space.sh,.sl (r.1.space.ws.map uC),.sl (r.1.space.fs.map frC),.sl (r.1.belts.map (lC Inc.c)),DI r.1.seq,.sl (r.1.sets.map Qe.c),.sl (r.1.roots.used.map bC),.sl (r.1.roots.refs.map uC),DI r.1.since,DI r.1.stats.allocated,DI r.1.stats.objects,DI r.1.stats.collections,DI r.1.stats.steps,DI r.1.stats.rounds,DI r.1.stats.condemned,DI r.1.stats.copied,DI r.1.stats.entries,DI r.1.stats.work,DB r.1.dead],DB r.2.1,DI r.2.2]) []:=by
 unfold XF
 &mk0 Tryz.func66 ?_
 &ar ?_
 &sq λK k=>?_
 &ar ?_
 &xs (λh2=>?_) λh2=>?_
 &da ?_
 ~fwtt r0
 &db ?_
 &xd λv3 hv3=>?_
 have q0:=cG r0 (Qgv hv3)
 &ar ?_
 &ar ?_
 ~fwtt r0
noncomputable def JM(p0:Hp)(p1:AOp):Option (Hp×Ans) :=
 (XP p1.a p1.b).bind λv2 =>
 if v2.2=0 then
 ((Jq p0).bind λv5 =>
 if v5=true then
 ((Qt p0 15).bind λv7 =>
 some ((v7.1,v7.2)))
 else
 (JN p0 p1.a p1.b).bind λv8 =>
 if v8.2.2=0 then
 ((Jr v8.1.roots (wu (w64 (v8.2.1+1)))).bind λv11 =>
 (Q8 (Hp.mk v8.1.config v8.1.space v8.1.belts v8.1.seq v8.1.sets v11.1 v8.1.since v8.1.stats v8.1.dead) (wu v11.2.1)).bind λv12 =>
 some ((v12.1,v12.2)))
 else
 (Qt v8.1 v8.2.2).bind λv13 =>
 some ((v13.1,v13.2)))
 else
 (Qt p0 v2.2).bind λv14 =>
 some ((v14.1,v14.2))
theorem Qe3{p0 p1 r}:Sm (JM p0 p1) r->DCall Tryz.prog 65 [.agg [.lit (.string p0.config.name),.sl (p0.config.rules.map Rul.c),DI p0.config.full,DI p0.space.sh,.sl (p0.space.ws.map uC),.sl (p0.space.fs.map frC),.sl (p0.belts.map (lC Inc.c)),DI p0.seq,.sl (p0.sets.map Qe.c),.sl (p0.roots.used.map bC),.sl (p0.roots.refs.map uC),DI p0.since,DI p0.stats.allocated,DI p0.stats.objects,DI p0.stats.collections,DI p0.stats.steps,DI p0.stats.rounds,DI p0.stats.condemned,DI p0.stats.copied,DI p0.stats.entries,DI p0.stats.work,DB p0.dead],.agg [DI p1.code,DI p1.a,DI p1.b,DI p1.c_]] [] (.tup [.agg [.lit (.string r.1.config.name),.sl (r.1.config.rules.map Rul.c),DI r.1.config.full,DI r.1.space.sh,.sl (r.1.space.ws.map uC),.sl (r.1.space.fs.map frC),.sl (r.1.belts.map (lC Inc.c)),DI r.1.seq,.sl (r.1.sets.map Qe.c),.sl (r.1.roots.used.map bC),.sl (r.1.roots.refs.map uC),DI r.1.since,DI r.1.stats.allocated,DI r.1.stats.objects,DI r.1.stats.collections,DI r.1.stats.steps,DI r.1.stats.rounds,DI r.1.stats.condemned,DI r.1.stats.copied,DI r.1.stats.entries,DI r.1.stats.work,DB r.1.dead],.agg [DI r.2.err,DU r.2.value]]) []:=by
 unfold JM
 &mk0 Tryz.func65 ?_
 &ar ?_
 &sq λK k=>?_
 &xd λv2 hv2=>?_
 have q0:=cS r0 (Qa2 hv2)
 &ar ?_
 &ar ?_
 &xs (λh3=>?_) λh3=>?_
 &cb ?_
 &sq λK k=>?_
 &xd λv5 hv5=>?_
 replace q0:=cS r0 (QcG hv5)
 &ar ?_
 &xs (λh6=>?_) λh6=>?_
 &ca ?_
 &xd λv7 hv7=>?_
 replace q0:=cG r0 (Qq hv7)
 &ar ?_
 ~fww r0
 &cb ?_
 &xd λv8 hv8=>?_
 replace q0:=cG r0 (Qe4 hv8)
 &ar ?_
 &sq λK k=>?_
 &ar ?_
 &xs (λh10=>?_) λh10=>?_
 &db ?_
 &xd λv11 hv11=>?_
 replace q0:=cS r0 (QcH hv11)
 &ar ?_
 &xd λv12 hv12=>?_
 replace q0:=cG r0 (QJ hv12)
 &ar ?_
 ~fww r0
 &ca ?_
 &xd λv13 hv13=>?_
 replace q0:=cG r0 (Qq hv13)
 &ar ?_
 ~fww r0
 &ca ?_
 &xd λv14 hv14=>?_
 replace q0:=cG r0 (Qq hv14)
 &ar ?_
 ~fww r0
noncomputable def QbB(p0:Hp)(p1:AOp):Option (Hp×Ans) :=
 if p1.code<1 then
 (if p0.dead=true then
 (if p1.code=0 then
 ((Qt p0 20).bind λv6 =>
 some ((v6.1,v6.2)))
 else
 (Qt p0 19).bind λv7 =>
 some ((v7.1,v7.2)))
 else
 (Qt p0 20).bind λv8 =>
 some ((v8.1,v8.2)))
 else
 if 10<p1.code then
 (if p0.dead=true then
 (if p1.code=0 then
 ((Qt p0 20).bind λv13 =>
 some ((v13.1,v13.2)))
 else
 (Qt p0 19).bind λv14 =>
 some ((v14.1,v14.2)))
 else
 (Qt p0 20).bind λv15 =>
 some ((v15.1,v15.2)))
 else
 if p0.dead=true then
 ((Qt p0 19).bind λv18 =>
 some ((v18.1,v18.2)))
 else
 if p1.code=1 then
 ((JM p0 p1).bind λv21 =>
 some ((v21.1,v21.2)))
 else
 if p1.code=8 then
 ((XF p0).bind λv23 =>
 (Q8 v23.1 0).bind λv24 =>
 some ((v24.1,v24.2)))
 else
 if p1.code=10 then
 ((Xb p0).bind λv26 =>
 (Q8 p0 (wu v26)).bind λv27 =>
 some ((v27.1,v27.2)))
 else
 if p1.code=6 then
 ((Zj p0 p1.a false).bind λv30 =>
 if v30=0 then
 ((Zj p0 p1.b false).bind λv33 =>
 if v33=0 then
 ((QK p0 p1.a).bind λv35 =>
 (QK p0 p1.b).bind λv36 =>
 (JK (decide (v35=v36))).bind λv37 =>
 (Q8 p0 v37).bind λv38 =>
 some ((v38.1,v38.2)))
 else
 (Qt p0 v33).bind λv39 =>
 some ((v39.1,v39.2)))
 else
 (Qt p0 v30).bind λv40 =>
 some ((v40.1,v40.2)))
 else
 (Zj p0 p1.a true).bind λv42 =>
 if v42=0 then
 (if p1.code=7 then
 ((QH p0).bind λv46 =>
 (Qaq v46.roots p1.a).bind λv47 =>
 (Q8 (Hp.mk v46.config v46.space v46.belts v46.seq v46.sets v47.1 v46.since v46.stats v46.dead) 0).bind λv48 =>
 some ((v48.1,v48.2)))
 else
 if p1.code=9 then
 ((QK p0 p1.a).bind λv50 =>
 (Zl p0.space (w64 ((w64 v50)-1))).bind λv51 =>
 (Q8 p0 (wu (w64 ((w64 (256*v51.1))+v51.2.1)))).bind λv52 =>
 some ((v52.1,v52.2)))
 else
 (JL p0 p1).bind λv53 =>
 some ((v53.1,v53.2)))
 else
 (Qt p0 v42).bind λv54 =>
 some ((v54.1,v54.2))
theorem F_ref28_Do_ok{p0 p1 r}:Sm (QbB p0 p1) r->DCall Tryz.prog 39 [.agg [.lit (.string p0.config.name),.sl (p0.config.rules.map Rul.c),DI p0.config.full,DI p0.space.sh,.sl (p0.space.ws.map uC),.sl (p0.space.fs.map frC),.sl (p0.belts.map (lC Inc.c)),DI p0.seq,.sl (p0.sets.map Qe.c),.sl (p0.roots.used.map bC),.sl (p0.roots.refs.map uC),DI p0.since,DI p0.stats.allocated,DI p0.stats.objects,DI p0.stats.collections,DI p0.stats.steps,DI p0.stats.rounds,DI p0.stats.condemned,DI p0.stats.copied,DI p0.stats.entries,DI p0.stats.work,DB p0.dead],.agg [DI p1.code,DI p1.a,DI p1.b,DI p1.c_]] [] (.tup [.agg [.lit (.string r.1.config.name),.sl (r.1.config.rules.map Rul.c),DI r.1.config.full,DI r.1.space.sh,.sl (r.1.space.ws.map uC),.sl (r.1.space.fs.map frC),.sl (r.1.belts.map (lC Inc.c)),DI r.1.seq,.sl (r.1.sets.map Qe.c),.sl (r.1.roots.used.map bC),.sl (r.1.roots.refs.map uC),DI r.1.since,DI r.1.stats.allocated,DI r.1.stats.objects,DI r.1.stats.collections,DI r.1.stats.steps,DI r.1.stats.rounds,DI r.1.stats.condemned,DI r.1.stats.copied,DI r.1.stats.entries,DI r.1.stats.work,DB r.1.dead],.agg [DI r.2.err,DU r.2.value]]) []:=by
 unfold QbB
 &mk0 Tryz.func39 ?_
 &ar ?_
 &sq λK k=>?_
 &xs (λh2=>?_) λh2=>?_
 &ar ?_
 &ca ?_
 &sq λK k=>?_
 &xs (λh4=>?_) λh4=>?_
 &ar ?_
 &xs (λh5=>?_) λh5=>?_
 &cb ?_
 &xd λv6 hv6=>?_
 have q0:=cG r0 (Qq hv6)
 &ar ?_
 ~fww r0
 &ca ?_
 &xd λv7 hv7=>?_
 have q0:=cG r0 (Qq hv7)
 &ar ?_
 ~fww r0
 &ar ?_
 &cb ?_
 &xd λv8 hv8=>?_
 have q0:=cG r0 (Qq hv8)
 &ar ?_
 ~fww r0
 &ar ?_
 &xs (λh9=>?_) λh9=>?_
 &ca ?_
 &sq λK k=>?_
 &xs (λh11=>?_) λh11=>?_
 &ar ?_
 &xs (λh12=>?_) λh12=>?_
 &cb ?_
 &xd λv13 hv13=>?_
 have q0:=cG r0 (Qq hv13)
 &ar ?_
 ~fww r0
 &ca ?_
 &xd λv14 hv14=>?_
 have q0:=cG r0 (Qq hv14)
 &ar ?_
 ~fww r0
 &ar ?_
 &cb ?_
 &xd λv15 hv15=>?_
 have q0:=cG r0 (Qq hv15)
 &ar ?_
 ~fww r0
 &cb ?_
 &sq λK k=>?_
 &ar ?_
 &xs (λh17=>?_) λh17=>?_
 &ca ?_
 &xd λv18 hv18=>?_
 have q0:=cG r0 (Qq hv18)
 &ar ?_
 ~fww r0
 &cb ?_
 &sq λK k=>?_
 &ar ?_
 &ar ?_
 &xs (λh20=>?_) λh20=>?_
 &ca ?_
 &xd λv21 hv21=>?_
 have q0:=cG r0 (Qe3 hv21)
 &ar ?_
 ~fww r0
 &db ?_
 &xs (λh22=>?_) λh22=>?_
 &ca ?_
 &xd λv23 hv23=>?_
 have q0:=cG r0 (Qd9 hv23)
 &ar ?_
 &xd λv24 hv24=>?_
 replace q0:=cG r0 (QJ hv24)
 &ar ?_
 ~fww r0
 &db ?_
 &xs (λh25=>?_) λh25=>?_
 &ca ?_
 &xd λv26 hv26=>?_
 &xd λv27 hv27=>?_
 have q0:=cS r0 (QdB hv26)
 have q1:=cG r0 (QJ hv27)
 &ar ?_
 ~fww r0
 &db ?_
 &xs (λh28=>?_) λh28=>?_
 &ca ?_
 &sq λK k=>?_
 &xd λv30 hv30=>?_
 have q0:=cS r0 (XX hv30)
 &ar ?_
 &ar ?_
 &xs (λh31=>?_) λh31=>?_
 &cb ?_
 &sq λK k=>?_
 &xd λv33 hv33=>?_
 replace q0:=cS r0 (XX hv33)
 &ar ?_
 &ar ?_
 &xs (λh34=>?_) λh34=>?_
 &cb ?_
 &xd λv35 hv35=>?_
 &xd λv36 hv36=>?_
 &xd λv37 hv37=>?_
 &xd λv38 hv38=>?_
 &ar ?_
 &goA (Jn r0 (Q1 hv35) rfl ScS.nil) ?_
 &au ?_
 &goA (Jn r0 (Q1 hv36) rfl ScS.nil) ?_
 &au ?_
 &goA (Jn r0 (Qe1 hv37) rfl ScS.nil) ?_
 &goA (m_cG r0 (QJ hv38)) ?_
 &au ?_
 ~fww r0
 &ca ?_
 &xd λv39 hv39=>?_
 replace q0:=cG r0 (Qq hv39)
 &ar ?_
 ~fww r0
 &ca ?_
 &xd λv40 hv40=>?_
 replace q0:=cG r0 (Qq hv40)
 &ar ?_
 ~fww r0
 &cb ?_
 &sq λK k=>?_
 &xd λv42 hv42=>?_
 have q0:=cS r0 (XX hv42)
 &ar ?_
 &ar ?_
 &xs (λh43=>?_) λh43=>?_
 &cb ?_
 &sq λK k=>?_
 &ar ?_
 &ar ?_
 &xs (λh45=>?_) λh45=>?_
 &ca ?_
 &xd λv46 hv46=>?_
 replace q0:=cG r0 (Q2 hv46)
 &ar ?_
 &xd λv47 hv47=>?_
 replace q0:=cS r0 (Qgx hv47)
 &ar ?_
 &xd λv48 hv48=>?_
 replace q0:=cG r0 (QJ hv48)
 &ar ?_
 ~fww r0
 &db ?_
 &xs (λh49=>?_) λh49=>?_
 &ca ?_
 &xd λv50 hv50=>?_
 &xd λv51 hv51=>?_
 replace q0:=cS r0 (Q1 hv50)
 have q1:=cS r0 (XO hv51)
 &ar ?_
 &xd λv52 hv52=>?_
 replace q0:=cG r0 (QJ hv52)
 &ar ?_
 ~fww r0
 &cb ?_
 &xd λv53 hv53=>?_
 replace q0:=cG r0 (Qe2 hv53)
 &ar ?_
 ~fww r0
 &ca ?_
 &xd λv54 hv54=>?_
 replace q0:=cG r0 (Qq hv54)
 &ar ?_
 ~fww r0
noncomputable def JW(p0:Qc)(p1:Cfg):Option (Hp×Gra×Qc) :=
 (Qbm p0).bind λv1 =>
 (QaX p1 v1.1 v1.2.1).bind λv2 =>
 (QaW).bind λv3 =>
 ((Qb v1.2.2 50).bind λv6 =>
 Qh (λ(s8:Qc×Hp×Gra×Int) =>
 if 0<s8.2.2.2 then
 ((QaE s8.1).bind λv12 =>
 if v12.1=true then
 ((QcP v12.2 s8.2.2.1).bind λv15 =>
 (QbB s8.2.1 v15.1).bind λv16 =>
 if v16.2.err=18 then
 (some (.go ((v15.2,s8.2.1,s8.2.2.1,w64 (s8.2.2.2-1)))))
 else
 (QbA s8.2.2.1 v15.1).bind λv19 =>
 some (.go ((v15.2,v16.1,v19.1,w64 (s8.2.2.2-1)))))
 else
 some (.out ((v12.2,s8.2.1,s8.2.2.1))))
 else
 some (.out ((s8.1,s8.2.1,s8.2.2.1)))) (v6.2,v2.1,v3,w64 (6+v6.1))).bind λ(b4:Qc×Hp×Gra) =>
 some ((b4.2.1,b4.2.2,b4.1))
theorem Qfc{p0 p1 r}:Sm (JW p0 p1) r->DCall Tryz.prog 17 [.ptr 0 0 0,.agg [.lit (.string p1.name),.sl (p1.rules.map Rul.c),DI p1.full]] [(0,bO 2 [.sl (p0.l.map iC),DI p0.pos])] (.tup [.agg [.lit (.string r.1.config.name),.sl (r.1.config.rules.map Rul.c),DI r.1.config.full,DI r.1.space.sh,.sl (r.1.space.ws.map uC),.sl (r.1.space.fs.map frC),.sl (r.1.belts.map (lC Inc.c)),DI r.1.seq,.sl (r.1.sets.map Qe.c),.sl (r.1.roots.used.map bC),.sl (r.1.roots.refs.map uC),DI r.1.since,DI r.1.stats.allocated,DI r.1.stats.objects,DI r.1.stats.collections,DI r.1.stats.steps,DI r.1.stats.rounds,DI r.1.stats.condemned,DI r.1.stats.copied,DI r.1.stats.entries,DI r.1.stats.work,DB r.1.dead],.agg [.sl (r.2.1.nodes.map Nod.c),.sl (r.2.1.used.map bC),.sl (r.2.1.roots.map iC)]]) [(0,bO 2 [.sl (r.2.2.l.map iC),DI r.2.2.pos])]:=by
 unfold JW
 &mk0 Tryz.func17 ?_
 &ar ?_
 &xd λv1 hv1=>?_
 have q0:=cG r1 (QgG hv1)
 &ar ?_
 &xd λv2 hv2=>?_
 replace q0:=cG r0 (F_ref27_New_ok hv2)
 &ar ?_
 &xd λv3 hv3=>?_
 replace q0:=cG r0 (F_ref29_New_ok hv3)
 &ar ?_
 &cT [] [(4,λb4=>.ptr 2 0 0),(5,λb4=>.ptr 3 0 0),(8,λb4=>.ptr 11 0 0),(10,λb4=>.ptr 15 0 0)] [2,3] [] [(0,λb4=>bO 2 [.sl (b4.1.l.map iC),DI b4.1.pos]),(11,λb4=>bO 22 [.lit (.string b4.2.1.config.name),.sl (b4.2.1.config.rules.map Rul.c),DI b4.2.1.config.full,DI b4.2.1.space.sh,.sl (b4.2.1.space.ws.map uC),.sl (b4.2.1.space.fs.map frC),.sl (b4.2.1.belts.map (lC Inc.c)),DI b4.2.1.seq,.sl (b4.2.1.sets.map Qe.c),.sl (b4.2.1.roots.used.map bC),.sl (b4.2.1.roots.refs.map uC),DI b4.2.1.since,DI b4.2.1.stats.allocated,DI b4.2.1.stats.objects,DI b4.2.1.stats.collections,DI b4.2.1.stats.steps,DI b4.2.1.stats.rounds,DI b4.2.1.stats.condemned,DI b4.2.1.stats.copied,DI b4.2.1.stats.entries,DI b4.2.1.stats.work,DB b4.2.1.dead]),(15,λb4=>bO 3 [.sl (b4.2.2.nodes.map Nod.c),.sl (b4.2.2.used.map bC),.sl (b4.2.2.roots.map iC)])] 16 (λz5=>?_) λb4=>?_
 &xd λv6 hv6=>?_
 replace q0:=cG r1 (Qa hv6)
 &ar ?_
 &lP [0] [(4,λs8=>.ptr 2 0 0),(5,λs8=>.ptr 3 0 0),(8,λs8=>.ptr 11 0 0),(10,λs8=>.ptr 15 0 0),(11,λs8=>DI s8.2.2.2)] [2,3] [] [(0,λs8=>bO 2 [.sl (s8.1.l.map iC),DI s8.1.pos]),(11,λs8=>bO 22 [.lit (.string s8.2.1.config.name),.sl (s8.2.1.config.rules.map Rul.c),DI s8.2.1.config.full,DI s8.2.1.space.sh,.sl (s8.2.1.space.ws.map uC),.sl (s8.2.1.space.fs.map frC),.sl (s8.2.1.belts.map (lC Inc.c)),DI s8.2.1.seq,.sl (s8.2.1.sets.map Qe.c),.sl (s8.2.1.roots.used.map bC),.sl (s8.2.1.roots.refs.map uC),DI s8.2.1.since,DI s8.2.1.stats.allocated,DI s8.2.1.stats.objects,DI s8.2.1.stats.collections,DI s8.2.1.stats.steps,DI s8.2.1.stats.rounds,DI s8.2.1.stats.condemned,DI s8.2.1.stats.copied,DI s8.2.1.stats.entries,DI s8.2.1.stats.work,DB s8.2.1.dead]),(15,λs8=>bO 3 [.sl (s8.2.2.1.nodes.map Nod.c),.sl (s8.2.2.1.used.map bC),.sl (s8.2.2.1.roots.map iC)])] 16 λs8 y9 hq9=>?_
 &sq λK k=>?_
 &xs (λh11=>?_) λh11=>?_
 &xd λv12 hv12=>?_
 replace q0:=cG r1 (QdD hv12)
 &ar ?_
 &xs (λh13=>?_) λh13=>?_
 &ca ?_
 &sq λK k=>?_
 &au ?_
 &xd λv15 hv15=>?_
 replace q0:=cG r1 (F_make_Op_ok hv15)
 &ar ?_
 &xd λv16 hv16=>?_
 replace q0:=cG r0 (F_ref28_Do_ok hv16)
 &ar ?_
 &sq λK k=>?_
 &ar ?_
 &xs (λh18=>?_) λh18=>?_
 &da ?_
 ~wJ []
 &db ?_
 &xd λv19 hv19=>?_
 replace q0:=cG r0 (F_ref29_Do_ok hv19)
 &ar ?_
 &ar ?_
 ~wJ []
 &cb ?_
 &xo hq9 ?_
 ~wJ []
 &ar ?_
 &cb ?_
 &xo hq9 ?_
 ~wJ []
 &ar ?_
 ~fww r1
noncomputable def Qa3(p0:Qc):Option (Hp×Gra×Qc) :=
 (JX p0).bind λv1 =>
 (JW v1.2 v1.1).bind λv2 =>
 some ((v2.1,v2.2.1,v2.2.2))
theorem F_make_Heap_ok{p0 r}:Sm (Qa3 p0) r->DCall Tryz.prog 5 [.ptr 0 0 0] [(0,bO 2 [.sl (p0.l.map iC),DI p0.pos])] (.tup [.agg [.lit (.string r.1.config.name),.sl (r.1.config.rules.map Rul.c),DI r.1.config.full,DI r.1.space.sh,.sl (r.1.space.ws.map uC),.sl (r.1.space.fs.map frC),.sl (r.1.belts.map (lC Inc.c)),DI r.1.seq,.sl (r.1.sets.map Qe.c),.sl (r.1.roots.used.map bC),.sl (r.1.roots.refs.map uC),DI r.1.since,DI r.1.stats.allocated,DI r.1.stats.objects,DI r.1.stats.collections,DI r.1.stats.steps,DI r.1.stats.rounds,DI r.1.stats.condemned,DI r.1.stats.copied,DI r.1.stats.entries,DI r.1.stats.work,DB r.1.dead],.agg [.sl (r.2.1.nodes.map Nod.c),.sl (r.2.1.used.map bC),.sl (r.2.1.roots.map iC)]]) [(0,bO 2 [.sl (r.2.2.l.map iC),DI r.2.2.pos])]:=by
 unfold Qa3
 &mk0 Tryz.func5 ?_
 &ar ?_
 &xd λv1 hv1=>?_
 &xd λv2 hv2=>?_
 have q0:=cG r1 (Qfd hv1)
 have q1:=cG r1 (Qfc hv2)
 &ar ?_
 ~fww r1
noncomputable def Zs(p0:List Int)(p1:Int):Option Bool :=
 (Qc5 p0).bind λv1 =>
 (Qa3 v1).bind λv2 =>
 if (v2.1.sets.length:Int)*40<=140737488355328/\(v2.1.sets.length:Int)<=9223372036854775807 then
 (if 0<(v2.1.sets.length:Int) then
 ((QaQ p1 (v2.1.sets.length:Int)).bind λv7 =>
 if 0<=v7/\v7<=v2.1.sets.length then
 if 0<=w64 (v7+1)/\w64 (v7+1)<=v2.1.sets.length then
 if 0<=v7/\v7<=w64 (v7+1)/\w64 (v7+1)<=v2.1.sets.length then
 if (v2.1.sets.length:Int)*40<=140737488355328/\(v2.1.sets.length:Int)<=9223372036854775807 then
 some ((v2.1.sets.take (Int.toNat v7))++((v2.1.sets.take (Int.toNat (v2.1.sets.length:Int))).drop (Int.toNat (w64 (v7+1)))))
 else none
 else none
 else none
 else none)
 else
 some (v2.1.sets)).bind λ(b4:List Qe) =>
 bndR (Qh (λ(s16:Int) =>
 if s16<([v2.1.sets,b4,([]:List Qe)].length:Int) then
 ((at_ [v2.1.sets,b4,([]:List Qe)] s16).bind λv21 =>
 (ZW v2.1.space v2.1.belts v21).bind λv22 =>
 (XJ v2.1.space v2.1.belts v21).bind λv23 =>
 (Xd v22 v23).bind λv24 =>
 if v24=true then
 (some (.go (w64 (s16+1))))
 else
 some (.out (.inr (false))))
 else
 some (.out (.inl (())))) 0) λ(b13:Unit) =>
 (JY).bind λv26 =>
 some (v26)
 else none
theorem Qbu{p0 p1 r}:Sm (Zs p0 p1) r->DCall Tryz.prog 3 [.sl (p0.map iC),DI p1] [] (DB r) []:=by
 unfold Zs
 &mk0 Tryz.func3 ?_
 &ar ?_
 &xd λv1 hv1=>?_
 &xd λv2 hv2=>?_
 have q0:=cG r0 (F_make_New_ok hv1)
 have q1:=cG r1 (F_make_Heap_ok hv2)
 &ar ?_
 &xc λh3=>?_
 &ar ?_
 &goA (QbU (c:=Qe.c) v2.1.sets h3 i31.ok i81.ok rfl (.sl rfl (Qg (c:=Qe.c) (λ_=>rfl) _))) ?_
 &au ?_
 &cT [] [(5,λb4=>.ptr 1 0 0),(7,λb4=>.own 4 0 b4.length)] [1] [] [(4,λb4=>aO 3 (b4.map Qe.c))] 5 (λz5=>?_) λb4=>?_
 &ar ?_
 &xs (λh6=>?_) λh6=>?_
 &ca ?_
 &xd λv7 hv7=>?_
 replace q0:=cS r0 (Qed hv7)
 &ar ?_
 &xc λh8=>?_
 &xc λh9=>?_
 rcases U7 h9.2 with h10 | h10
 &xc λh11=>?_
 &xc λh12=>?_
 &ar ?_
 &goA (QeV (c:=Qe.c) (xs:=v2.1.sets) (a:=0) (b:=v7) ⟨Vo 0,h8.1,h8.2,.inl rfl⟩ i31.ok i81.ok (.inl ⟨rfl,rfl⟩) (.inr ⟨_,_,rfl,rfl⟩) rfl rfl rfl rfl rfl) ?_
 &au ?_
 &goA (QeV (c:=Qe.c) (xs:=v2.1.sets) (a:=w64 (v7+1)) (b:=(v2.1.sets.length:Int)) ⟨h9.1,h9.2,Vo _,.inr h10⟩ i31.ok i81.ok (.inr ⟨_,_,rfl,rfl⟩) (.inl ⟨rfl,rfl⟩) rfl rfl rfl rfl rfl) ?_
 &goA (m_del (c:=Qe.c) v2.1.sets (a:=v7) (b:=w64 (v7+1)) h11 i31.ok i81.ok rfl rfl (by first | rfl | omega | (simp;done) | (simp;omega)) rfl (delV rfl rfl rfl ⟨Oo,h11.2.2⟩ rfl) h12) ?_
 &au ?_
 ~wJ []
 &xc λh11=>?_
 &xc λh12=>?_
 &ar ?_
 &goA (QeV (c:=Qe.c) (xs:=v2.1.sets) (a:=0) (b:=v7) ⟨Vo 0,h8.1,h8.2,.inl rfl⟩ i31.ok i81.ok (.inl ⟨rfl,rfl⟩) (.inr ⟨_,_,rfl,rfl⟩) rfl rfl rfl rfl rfl) ?_
 &au ?_
 &goA (m_slN (c:=Qe.c) (xs:=v2.1.sets) (a:=w64 (v7+1)) h10 i31.ok i81.ok ⟨_,_,rfl,rfl⟩ rfl rfl rfl rfl rfl) ?_
 &goA (m_del (c:=Qe.c) v2.1.sets (a:=v7) (b:=w64 (v7+1)) h11 i31.ok i81.ok rfl rfl (by first | rfl | omega | (simp;done) | (simp;omega)) rfl rfl h12) ?_
 &au ?_
 ~wJ []
 &cb ?_
 ~wJ [(4,3)]
 &cU [] [] [] [] [] 0 (λz14 hr14=>?_) λb13=>?_
 &ar ?_
 &goA (m_litQ (c:=(lC Qe.c)) ([v2.1.sets,b4,([]:List Qe)]:List (List Qe)) i47.ok i31.ok rfl rfl rfl rfl Od Od Od rfl (pu_sl (pu_own (c:=Qe.c) (ys:=b4) rfl (pu_lit pu_nil))) rfl rfl) ?_
 &au ?_
 &lP [5,39] [(38,λs16=>.own 5 0 [v2.1.sets,b4,([]:List Qe)].length),(40,λs16=>DI s16)] [1,5] [] [] 6 λs16 y17 hq17=>?_
 &ar ?_
 &sq λK k=>?_
 &xs (λh19=>?_) λh19=>?_
 &ca ?_
 &sq λK k=>?_
 &au ?_
 &xa λv21 hv21=>?_
 &ar ?_
 &xd λv22 hv22=>?_
 &xd λv23 hv23=>?_
 &xd λv24 hv24=>?_
 replace q0:=cS r0 (Qda hv22)
 replace q1:=cS r0 (Qea hv23)
 have q2:=cS r0 (QdC hv24)
 &ar ?_
 &xs (λh25=>?_) λh25=>?_
 &db ?_
 ~wJ []
 &da ?_
 &xo hq17 ?_
 &xr hr14 ?_
 ~ft r0
 &cb ?_
 &xo hq17 ?_
 ~wJ []
 &xd λv26 hv26=>?_
 replace q0:=cS r0 (Qfe hv26)
 &ar ?_
 ~ft r0
end Go.Proofs.YtkfnkecgcdhncaaGreat
