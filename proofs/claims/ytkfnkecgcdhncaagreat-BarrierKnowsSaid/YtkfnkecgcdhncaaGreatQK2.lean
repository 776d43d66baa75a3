/- Parts of the proof. No condition. -/
import Derived.Test.YtkfnkecgcdhncaaGreatQM0
import Derived.Test.YtkfnkecgcdhncaaGreatQM1
import Derived.Test.YtkfnkecgcdhncaaGreatQM2
import Derived.Test.YtkfnkecgcdhncaaGreatQM3
import Derived.Test.YtkfnkecgcdhncaaGreatQM4
import Derived.Test.YtkfnkecgcdhncaaGreatQM5
import Derived.Test.YtkfnkecgcdhncaaGreatQM6
import Derived.Test.YtkfnkecgcdhncaaGreatQM7
import Derived.Test.YtkfnkecgcdhncaaGreatQM8
import Derived.Test.YtkfnkecgcdhncaaGreatQM9
import Derived.Test.YtkfnkecgcdhncaaGreatQM10
import Derived.Test.YtkfnkecgcdhncaaGreatQM11
import Derived.Test.YtkfnkecgcdhncaaGreatQM12
import Derived.Test.YtkfnkecgcdhncaaGreatQM13
import Derived.Test.YtkfnkecgcdhncaaGreatQM14
import Derived.Test.YtkfnkecgcdhncaaGreatQK1
import Derived.IntWalk
import Derived.Laws.StructEq
import Derived.KernelRfl
import Derived.Laws.CopyRow
import Derived.Laws.AppendOwn
import Derived.Laws.OwnMore
import Derived.Laws.MakeOwn
import Derived.Great.BuildSlice
import Derived.WalkKit
import Derived.WalkSpells
import Derived.WalkLawsBesides
import Derived.Lib.Hide
import Derived.Orders
import Derived.RegionTactic
import Derived.Deep.RegionHeld
import Derived.Test.YtkfnkecgcdhncaaGreatRows
import Derived.Maps.AppendAt
import Derived.Deep.QuietTactic
import Derived.BigQuiet
import Derived.Shelf.Spec.SlicesInsertGrow
import Derived.Test.YtkfnkecgcdhncaaGreatChecked
import Derived.Laws.Externs
import Derived.Shelf.Sort.Plain
import Derived.Shelf.Slices.In.SortNone
import Derived.Shelf.Slices.Cells
import Derived.ChangeSlices
import Derived.Deep.Slices
import Derived.Below
namespace Go.Proofs.YtkfnkecgcdhncaaGreat
open Go.RowKit
set_option linter.unusedSimpArgs false
set_option linter.unusedVariables false
def rtsH(h:Hp)(R:Rts):Hp:=⟨h.config,h.space,h.belts,h.seq,h.sets,R,h.since,h.stats,h.dead⟩
noncomputable def plcD(h:Hp)(o:AOp):Int×Int:=PlcR h.space (QdH h.roots o.a-1) o.b (decide (o.code=2\/o.code=3))
noncomputable def fldD(h:Hp)(o:AOp):Hp×Ans :=
  if (plcD h o).2=0 then
    (if o.code=4 then (h,⟨0,wAt h.space (plcD h o).1⟩)
     else if o.code=2 then
       (if wAt h.space (plcD h o).1=0 then (h,⟨0,0⟩)
        else if (Zv h.roots).length=32 then (h,⟨15,0⟩)
        else (rtsH h (takE h.roots (wAt h.space (plcD h o).1)).1,⟨0,(takE h.roots (wAt h.space (plcD h o).1)).2.1⟩))
     else if o.code=3 then
       (if Qfu h.roots o.c_ false=0 then (rfwH h (plcD h o).1 (QdH h.roots o.c_),⟨0,0⟩) else (h,⟨Qfu h.roots o.c_ false,0⟩))
     else (datH h (plcD h o).1 (wu o.c_),⟨0,0⟩))
  else (h,⟨(plcD h o).2,0⟩)
noncomputable def doR(h:Hp)(o:AOp):Hp×Ans :=
  if o.code<1\/10<o.code then (h,⟨if h.dead=true/\¬ o.code=0 then 19 else 20,0⟩)
  else if h.dead=true then (h,⟨19,0⟩)
  else if o.code=1 then alcD h o.a o.b
  else if o.code=8 then ((QdI 0 300 (cntH h h.since) ⟨0,false,0⟩).1,⟨0,0⟩)
  else if o.code=10 then (h,⟨0,wu (sumW h.belts.flatten)⟩)
  else if o.code=6 then
    (if Qfu h.roots o.a false=0 then
      (if Qfu h.roots o.b false=0 then (h,⟨0,if QdH h.roots o.a=QdH h.roots o.b then 1 else 0⟩) else (h,⟨Qfu h.roots o.b false,0⟩))
     else (h,⟨Qfu h.roots o.a false,0⟩))
  else if Qfu h.roots o.a true=0 then
    (if o.code=7 then (rtsH h (drpR h.roots (o.a-1).toNat),⟨0,0⟩)
     else if o.code=9 then (h,⟨0,wu (256*(Qy h.space (QdH h.roots o.a-1)).r+(Qy h.space (QdH h.roots o.a-1)).d)⟩)
     else fldD h o)
  else (h,⟨Qfu h.roots o.a true,0⟩)
structure OpI(o:AOp):Prop where
 b:I64 o.b
section
variable{h:Hp}{BL:List (List Itm)}
theorem fld_c(H:QG h BL)(hd:¬ h.dead=true){o:AOp}(ho:OpI o)(ha:Qfu h.roots o.a true=0)(hc:o.code=2\/o.code=3\/o.code=4\/o.code=5):JL h o=some (fldD h o):=by
 obtain ⟨i,ei,hi,hl⟩:∃ i:Nat,o.a=((i+1:Nat):Int)/\i<32/\i∈Zv h.roots:=by
  rcases hdlE_0 ha with ⟨_,k⟩ | k
  ·cases k
  ·~k
 ð⟨x,p,r,d,X⟩:=root_x H hl
 have e1:QdH h.roots o.a=QD h.roots i:=by rw [ei];~wrd_i i _
 have hlt:=X.lt
 have hX:=H.sp.each x X.hx
 have eX:=X.e
 have hw:QK h o.a=some (QD h.roots i):=by rw [QdK H.rts Oo,e1]
 have hw1:w64 (w64 (QD h.roots i)-1)=QD h.roots i-1:=by rw [Qd (n:=QD h.roots i) Oo,Qd Oo]
 have hpc:=λref=>place_c H.sp.ok.shp (Ze H.sp.ok.fm) H.sp.w (a:=QD h.roots i-1) (by unfold I64;omega) ho.b ref
 have hat:∀ ref,(PlcR h.space (QD h.roots i-1) o.b ref).2=0->∃ q:Nat,(PlcR h.space (QD h.roots i-1) o.b ref).1=(q:Int)/\q<h.space.ws.length:=λref h0=>by
  have hpl:=X.plc o.b ref
  have hbb:¬ (o.b<0\/(if ref then (r:Int) else d)<=o.b):=λk=>by rw [hpl,if_pos k] at h0;cases h0
  rw [if_neg hbb] at hpl
  ~⟨_,by rw [hpl],(X.fld hbb).lt⟩
 &Gd.eq ?_
 unfold JL fldD plcD
 rw [e1]
 &.ite (λk2=>?_) λk2=>?_
 ·have k2:o.code=2:=k2
  have eb:decide (o.code=2\/o.code=3)=true:=decide_eq_true (.inl k2)
  rw [eb]
  &.call hw ?_
  rw [hw1]
  &.call (hpc true) ?_
  &.ite (λh0=>?_) λh0=>?_
  ·have h0:(PlcR h.space (QD h.roots i-1) o.b true).2=0:=h0
   ð⟨q,eq,hq⟩:=hat true h0
   rw [if_pos h0,if_neg Oo,if_pos k2,eq]
   rw [Jk (Wa hq)]
   &.atN hq (.neg Oo ?_)
   &.ite (λk=>.some (by rw [if_pos k])) λk=>?_
   rw [if_neg k]
   &.call (full28_c H.rts) (.ite (λhf=>.some (by rw [if_pos (of_decide_eq_true hf)])) λhf=>?_)
   rw [if_neg (λk=>hf (decide_eq_true k))]
   &.call (Qb0 H) (.call (take20_c H.rts _) (.some ?_))
   have:=takE_rng h.roots H.rts.u h.space.ws[q]
   rw [Xv Oo]
   rfl
  ·have h0:¬ (PlcR h.space (QD h.roots i-1) o.b true).2=0:=h0
   rw [if_neg h0]
   ~.some rfl
 ·have k2:¬ o.code=2:=k2
  have eb:decide (o.code=2\/o.code=3)=decide (o.code=3):=by rw [decide_eq_decide];~⟨λk=>k.resolve_left k2,.inr⟩
  rw [eb]
  &.call hw ?_
  rw [hw1]
  &.call (hpc _) ?_
  &.ite (λh0=>?_) λh0=>?_
  ·have h0:(PlcR h.space (QD h.roots i-1) o.b (decide (o.code=3))).2=0:=h0
   ð⟨q,eq,hq⟩:=hat _ h0
   rw [if_pos h0,eq]
   &.atN hq (.ite (λk4=>?_) λk4=>?_)
   ·rw [if_pos k4,Jk (Wa hq)]
    ~.some rfl
   ·rw [if_neg k4,if_neg k2]
    &.ite (λk3=>?_) λk3=>?_
    ·have k3:o.code=3:=k3
     rw [if_pos k3]
     rw [decide_eq_true k3] at h0 eq
     &.call (Qc1 H.rts _ _) (.ite (λhh=>?_) λhh=>?_)
     ·have hh:Qfu h.roots o.c_ false=0:=hh
      rw [if_pos hh]
      ð⟨w1,w2,w3,w4,w5⟩:=wrd_ref H hh
      &.call hw (.call (QdK H.rts ⟨w4,w5⟩) ?_)
      rw [hw1]
      &.call (X.wref hd ho.b h0 hh).1 (.some ?_)
      rw [eq]
     ·have hh:¬ Qfu h.roots o.c_ false=0:=hh
      rw [if_neg hh]
      ~.some rfl
    ·have k3:¬ o.code=3:=k3
     rw [if_neg k3]
     rw [decide_eq_false k3] at h0 eq
     &.call hw ?_
     rw [hw1]
     &.call (X.wdat hd ho.b h0 (wu_u _)).1 (.some ?_)
     rw [eq]
  ·have h0:¬ (PlcR h.space (QD h.roots i-1) o.b (decide (o.code=3))).2=0:=h0
   rw [if_neg h0]
   ~.some rfl
end
section
variable{h:Hp}{BL:List (List Itm)}
theorem hdl_i{R:Rts}{a:Int}(ha:Qfu R a true=0):∃ i:Nat,a=((i+1:Nat):Int)/\i<32/\i∈Zv R:=by
 rcases hdlE_0 ha with ⟨_,k⟩ | k
 ·cases k
 ·~k
theorem collect_c(H:QG h BL)(hq:h.seq+256<=4294967294)(hd:¬ h.dead=true):XF h=some ((QdI 0 300 (cntH h h.since) ⟨0,false,0⟩).1,(QdI 0 300 (cntH h h.since) ⟨0,false,0⟩).2,0):=by
 &Gd.eq ?_
 unfold XF
 &.neg hd ?_
 have:=full_c (H.cnt h.since ⟨h.stats.allocated,h.stats.objects,w64 (h.stats.collections+1),h.stats.steps,h.stats.rounds,h.stats.condemned,h.stats.copied,h.stats.entries,h.stats.work⟩ h.dead) (by show h.seq+256<=_;omega)
 ~.call this (.some rfl)
set_option maxHeartbeats 1000000 in
theorem do28_c(H:QG h BL)(hq:h.seq+257<=4294967294){o:AOp}(ho:OpI o):QbB h o=some (doR h o):=by
 &Gd.eq ?_
 unfold QbB doR
 have no:∀ e,Qt h e=some (h,⟨e,0⟩):=λ_=>rfl
 have early:∀ {K:Option (Hp×Ans)},(o.code<1\/10<o.code)->Gd (λx=>x=(h,⟨if h.dead=true/\¬ o.code=0 then 19 else 20,0⟩)) (if h.dead=true then
   (if o.code=0 then ((Qt h 20).bind λv6=>some ((v6.1,v6.2))) else (Qt h 19).bind λv7=>some ((v7.1,v7.2)))
   else (Qt h 20).bind λv8=>some ((v8.1,v8.2))):=λ_=>by
  &.ite (λk=>.ite (λk2=>?_) λk2=>?_) λk=>?_
  ·~.call (no 20) (.some (by rw [if_neg λq=>q.2 k2]))
  ·~.call (no 19) (.some (by rw [if_pos ⟨k,k2⟩]))
  ·~.call (no 20) (.some (by rw [if_neg λq=>k q.1]))
 &.ite (λk=>?_) λk1=>.ite (λk=>?_) λk2=>?_
 ·have k:o.code<1:=k
  rw [if_pos (.inl k)]
  ~early (K:=none) (.inl k)
 ·have k:10<o.code:=k
  rw [if_pos (.inr k)]
  ~early (K:=none) (.inr k)
 have k1:¬ o.code<1:=k1
 have k2:¬ 10<o.code:=k2
 rw [if_neg Oo]
 &.ite (λhd=>?_) λhd=>?_
 ·rw [if_pos hd]
  ~.call (no 19) (.some rfl)
 have hd:¬ h.dead=true:=hd
 rw [if_neg hd]
 &.ite (λk=>?_) λk=>?_
 ·rw [if_pos k]
  ~.call (alcD_c H hq hd o) (.some rfl)
 rw [if_neg k]
 &.ite (λk8=>?_) λk8=>?_
 ·rw [if_pos k8]
  ~.call (collect_c H Oo hd) (.some rfl)
 rw [if_neg k8]
 &.ite (λk10=>?_) λk10=>?_
 ·rw [if_pos k10]
  have:Xb h=some (sumW h.belts.flatten):=by
   unfold Xb
   rw [words11_c H.bsz H.wd];rfl
  ~.call this (.some rfl)
 rw [if_neg k10]
 &.ite (λk6=>?_) λk6=>?_
 ·rw [if_pos k6]
  &.call (Qc1 H.rts _ _) (.ite (λha=>?_) λha=>?_)
  ·have ha:Qfu h.roots o.a false=0:=ha
   rw [if_pos ha]
   &.call (Qc1 H.rts _ _) (.ite (λhb=>?_) λhb=>?_)
   ·have hb:Qfu h.roots o.b false=0:=hb
    rw [if_pos hb]
    ð⟨_,_,_,a4,a5⟩:=wrd_ref H ha
    ð⟨_,_,_,b4,b5⟩:=wrd_ref H hb
    &.call (QdK H.rts ⟨a4,a5⟩) (.call (QdK H.rts ⟨b4,b5⟩) ?_)
    have ht:JK (decide (QdH h.roots o.a=QdH h.roots o.b))=some (if QdH h.roots o.a=QdH h.roots o.b then 1 else 0):=by
     unfold JK
     by_cases e:QdH h.roots o.a=QdH h.roots o.b
     ·rw [if_pos (decide_eq_true e),if_pos e]
     ·rw [if_neg (by simpa using e),if_neg e]
    ~.call ht (.some rfl)
   ·have hb:¬ Qfu h.roots o.b false=0:=hb
    rw [if_neg hb]
    ~.some rfl
  ·have ha:¬ Qfu h.roots o.a false=0:=ha
   rw [if_neg ha]
   ~.some rfl
 rw [if_neg k6]
 &.call (Qc1 H.rts _ _) (.ite (λha=>?_) λha=>?_)
 ·have ha:Qfu h.roots o.a true=0:=ha
  rw [if_pos ha]
  ð⟨i,ei,hi,hl⟩:=hdl_i ha
  ð⟨x,p,r,d,X⟩:=root_x H hl
  have e1:QdH h.roots o.a=QD h.roots i:=by rw [ei];~wrd_i i _
  have hlt:=X.lt
  have eX:=X.e
  have hps:=X.pos
  &.ite (λk7=>?_) λk7=>?_
  ·rw [if_pos k7]
   &.call (Qb0 H) ?_
   have:=drop20_c H.rts hi hl
   rw [<- ei] at this
   &.call this (.some ?_)
   rw [ei,show ((i+1:Nat):Int)-1=(i:Int) by omega,Wd]
   rfl
  rw [if_neg k7]
  &.ite (λk9=>?_) λk9=>?_
  ·rw [if_pos k9]
   &.call (QdK H.rts Oo) ?_
   rw [e1,Qd (n:=QD h.roots i) Oo,Qd (n:=QD h.roots i-1) Oo]
   &.call (look_c H.sp.ok.shp (Ze H.sp.ok.fm) H.sp.w (by unfold I64;omega)) ?_
   rw [X.look]
   dsimp only
   rw [Qd (n:=256*(r:Int)) Oo,Qd Oo]
   ~.some rfl
  rw [if_neg k9]
  &.call (fld_c H hd ho ha (by
   have k:¬ o.code=1:=k
   have k8:¬ o.code=8:=k8
   have k10:¬ o.code=10:=k10
   have k6:¬ o.code=6:=k6
   have k7:¬ o.code=7:=k7
   have k9:¬ o.code=9:=k9
   omega)) (.some rfl)
 ·have ha:¬ Qfu h.roots o.a true=0:=ha
  rw [if_neg ha]
  ~.some rfl
theorem rnd_out(H:QG h BL)(hq:h.seq+256<=4294967294):OpOut h ((QdI 0 300 (cntH h h.since) ⟨0,false,0⟩).1,⟨0,0⟩):=by
 ð⟨c1,c2,c3,c4,c5⟩:=rnd_inv (H.cnt h.since ⟨h.stats.allocated,h.stats.objects,w64 (h.stats.collections+1),h.stats.steps,h.stats.rounds,h.stats.condemned,h.stats.copied,h.stats.entries,h.stats.work⟩ h.dead) (by show h.seq+256<=_;omega) 0
 have c5:(QdI 0 300 (cntH h h.since) ⟨0,false,0⟩).1.seq<=h.seq+256:=c5
 ~⟨c1,c2,c3,c4,by show (QdI 0 300 (cntH h h.since) ⟨0,false,0⟩).1.seq<=_;omega⟩
theorem do_ok(H:QG h BL)(hq:h.seq+257<=4294967294){o:AOp}:(doR h o).2.err=18\/OpOut h (doR h o):=by
 have sm:=λa=>OpOut.same H a
 unfold doR
 split
 ·~.inr (sm _)
 split
 ·~.inr (sm _)
 rename_i hd
 split
 ·~alcD_ok H hq hd _ _
 split
 ·~.inr (rnd_out H Oo)
 split
 ·~.inr (sm _)
 split
 ·split
  ·split
   ·~.inr (sm _)
   ·~.inr (sm _)
  ·~.inr (sm _)
 split
 ·rename_i ha
  ð⟨i,ei,hi,hl⟩:=hdl_i ha
  ð⟨x,p,r,d,X⟩:=root_x H hl
  have e1:QdH h.roots o.a=QD h.roots i:=by rw [ei];~wrd_i i _
  have hlt:=X.lt
  right
  split
  ·rw [ei,show ((i+1:Nat):Int)-1=(i:Int) by omega,Wd]
   ~⟨⟨BL,H.dropH hi _ _ _⟩,rfl,rfl,Vo _,by show h.seq<=_;omega⟩
  split
  ·~sm _
  ·unfold fldD
   split
   ·rename_i h0
    unfold plcD at h0 ⊢
    rw [e1] at h0 ⊢
    split
    ·~sm _
    split
    ·rename_i k2
     rw [decide_eq_true (.inl k2)] at h0 ⊢
     split
     ·~sm _
     split
     ·~sm _
     ·rename_i hw hf
      ð⟨j,ej,hj,_⟩:=frsI_some H.rts hf
      have et:∀ w,(takE h.roots w).1=takR h.roots j w:=λw=>by unfold takE;rw [ej]
      have hpl:=X.plc o.b true
      have hbb:¬ (o.b<0\/(if true then (r:Int) else d)<=o.b):=λk=>by rw [hpl,if_pos k] at h0;cases h0
      have F:=X.fld hbb
      have hkr:fldK r o.b true<=r:=by unfold fldK;simp at hbb ⊢;omega
      rw [if_neg hbb] at hpl
      have hr:=H.refs _ (F.slot hkr)
      have hu:=QfH H.sp.w ((adr (szS h.space) x.fr (p+fldK r o.b true):Nat):Int)
      rw [hpl] at hw ⊢
      rcases hr with hr | ⟨hr1,r',d',hob⟩
      ·~absurd hr hw
      ·&⟨⟨BL,?_⟩,rfl,rfl,Vo _,by show h.seq<=_;omega⟩
       rw [et]
       ~H.take hj hr1 hu hob _ _ _
    split
    ·rename_i k2 k3
     rw [decide_eq_true (.inr k3)] at h0 ⊢
     split
     ·rename_i hc
      by_cases hb:I64 o.b
      ·~⟨⟨BL,(X.wref hd hb h0 hc).2⟩,rfl,rfl,Vo _,by show h.seq<=_;omega⟩
      ·exfalso
       have hpl:=X.plc o.b true
       have hbb:¬ (o.b<0\/(if true then (r:Int) else d)<=o.b):=λk=>by rw [hpl,if_pos k] at h0;cases h0
       have:=X.pos
       simp at hbb
       unfold I64 at hb
       omega
     ·~sm _
    ·rename_i k4 k2 k3
     rw [decide_eq_false (by rintro (k | k);~k2 k;~k3 k)] at h0 ⊢
     have hb:I64 o.b:=by
      have hpl:=X.plc o.b false
      have hbb:¬ (o.b<0\/(if false then (r:Int) else d)<=o.b):=λk=>by rw [hpl,if_pos k] at h0;cases h0
      have:=X.pos
      simp at hbb
      unfold I64
      omega
     ~⟨⟨BL,(X.wdat hd hb h0 (wu_u _)).2⟩,rfl,rfl,Vo _,by show h.seq<=_;omega⟩
   ·~sm _
 ·~.inr (sm _)
end
structure GOk(g:Gra):Prop where
 u:g.used.length=32
 v:g.roots.length=32
 n:g.nodes.length<=1000000
 t:∀ (i:Nat),g.used[i]?=some true->∃ k:Nat,g.roots[i]?=some (k:Int)/\k<g.nodes.length
 r:∀ nd∈g.nodes,nd.refs.length<=15/\nd.data.length<=32/\(∀ v∈nd.refs,v = -1\/(0<=v/\v<g.nodes.length))/\∀ x∈nd.data,U64 x
inductive Rch(g:Gra):Nat->Prop
 | root {i v:Nat}:g.used[i]?=some true->g.roots[i]?=some (v:Int)->Rch g v
 | edge {u v:Nat} {nd:Nod}:Rch g u->g.nodes[u]?=some nd->(v:Int)∈nd.refs->Rch g v
theorem GOk.rlt{g:Gra}(h:GOk g){v:Nat}(r:Rch g v):v<g.nodes.length:=by
 cases r with
 | root h1 h2 =>
  ð⟨k,e,hk⟩:=h.t _ h1
  rw [h2] at e
  injection e with e
  omega
 | edge h1 h2 h3 =>
  have:=(h.r _ (Wp h2)).2.2.1 _ h3
  omega
structure MrkI(g:Gra)(bs:List Bool):Prop where
 len:bs.length=g.nodes.length
 snd:∀ v,bs[v]?=some true->Rch g v
theorem MrkI.set{g:Gra}{bs:List Bool}(h:MrkI g bs){v:Nat}(hv:Rch g v):MrkI g (bs.set v true):=by
 &⟨by rw [Wv];~h.len,λw hw=>?_⟩
 rw [Ul] at hw
 split at hw
 ·rename_i e;rw [<- e];~hv
 ·~h.snd w hw
def MrkLe(a b:List Bool):Prop:=∀ v:Nat,a[v]?=some true->b[v]?=some true
theorem MrkLe.set(a:List Bool)(v:Nat):MrkLe a (a.set v true):=λw hw=>by
 rw [Ul]
 ð⟨hl,_⟩:=Wq.1 hw
 split
 ·rename_i e;rw [if_pos Oo]
 ·~hw
theorem MrkLe.trans{a b c:List Bool}(h:MrkLe a b)(k:MrkLe b c):MrkLe a c:=λv hv=>k v (h v hv)
def RootsIn(g:Gra)(bs:List Bool):Prop:=∀ (i v:Nat),g.used[i]?=some true->g.roots[i]?=some (v:Int)->bs[v]?=some true
def NodeIn(bs:List Bool)(i:Nat)(nd:Nod)(k:Nat):Prop:=bs[i]?=some true->∀ j (h:j<nd.refs.length),j<k->∀ v:Nat,nd.refs[j]=(v:Int)->bs[v]?=some true
noncomputable def rchL(g:Gra):List Int:=((List.range g.nodes.length).filter λv=>bP (Rch g v)).map λ(v:Nat)=>(v:Int)
theorem mark_set{bs:List Bool}{v:Nat}(hv:v<bs.length)(h:¬ bs[v]=true):bs.count true<(bs.set v true).count true:=by
 rw [List.count_set hv]
 have:(bs[v] == true)=false:=by simpa using h
 simp [this]
theorem reach_c{g:Gra}(h:GOk g):JJ g=some (rchL g):=by
 have hu:=h.u
 have hv:=h.v
 have hn:=h.n
 &Gd.eq ?_
 unfold JJ
 &.pos Oo ?_
 &Gd.bind (P:=λbs=>MrkI g bs/\RootsIn g bs) ?_ λbs hbs=>?_
 ·&Gd.for g.used.length (λ(t:List Bool) i=>(t,i)) (λi t=>MrkI g t/\∀ (j v:Nat),j<i->g.used[j]?=some true->g.roots[j]?=some (v:Int)->t[v]?=some true) (List.replicate g.nodes.length false) (by rw [Wd]) (λ_ _=>rfl) Oo ⟨⟨Ve,λv hv=>by rw [VR] at hv;split at hv <;> cases hv⟩,λj v hj=>by omega⟩ (λi hi t ht=>?_) (λt ht=>⟨ht.1,λi v h1 h2=>ht.2 i v (Wq.1 h1).1 h1 h2⟩)
  &.atN hi (.ite (λk=>?_) λk=>.some (.inl ⟨t,rfl,ht.1,λj v hj h1 h2=>?_⟩))
  ·have k:g.used[i]=true:=k
   have hui:g.used[i]?=some true:=by rw [Wa hi,k]
   ð⟨w,e,hw⟩:=h.t i hui
   ð⟨hr,er⟩:=Wq.1 e
   &.atN hr ?_
   rw [er]
   have hwt:w<t.length:=by rw [ht.1.len];~hw
   &.atN hwt (.some (.inl ⟨t.set w true,by rw [Wd],ht.1.set (.root hui e),λj v hj h1 h2=>?_⟩))
   by_cases ej:j=i
   ·subst ej
    rw [e] at h2
    injection h2 with h2
    have:w=v:=by omega
    subst this
    rw [WD hwt]
   ·~MrkLe.set t w v (ht.2 j v Oo h1 h2)
  ·have k:¬ g.used[i]=true:=k
   by_cases ej:j=i
   ·subst ej
    rw [Wa hi] at h1
    injection h1 with h1
    ~absurd h1 k
   ·~ht.2 j v Oo h1 h2
 &Gd.bind (P:=λbs=>MrkI g bs/\∀ v,Rch g v->bs[v]?=some true) ?_ λbs hbs=>?_
 ·&Gd.loop (λ(s:List Bool×Bool)=>MrkI g s.1/\RootsIn g s.1/\(s.2=false->∀ (i:Nat) (hi:i<g.nodes.length),NodeIn s.1 i g.nodes[i] g.nodes[i].refs.length)) _ (λs=>2*(g.nodes.length-s.1.count true)+(if s.2=true then 1 else 0)) ⟨hbs.1,hbs.2,λe=>by cases e⟩ ?_
  rintro ⟨b0,fl0⟩ ⟨hb1,hb2,hb3⟩
  dsimp only at hb1 hb2 hb3
  &.ite (λhfl=>?_) λhfl=>.out ⟨hb1,λv hv=>?_⟩
  ·have hfl:fl0=true:=hfl
   subst hfl
   &Gd.for g.nodes.length (λ(t:List Bool×Bool) i=>(t.1,t.2,i)) (λi t=>MrkI g t.1/\MrkLe b0 t.1/\(t.2=false->t.1=b0/\∀ (k:Nat) (hk:k<g.nodes.length),k<i->NodeIn b0 k g.nodes[k] g.nodes[k].refs.length)/\(t.2=true->b0.count true<t.1.count true)) (b0,false) rfl (λ_ _=>rfl) Oo ⟨hb1,λ_ h=>h,λ_=>⟨rfl,λk _ hk=>by omega⟩,λe=>by cases e⟩ (λi hi t ht=>?_) (λt ht=>?_)
   ·ð⟨t1,t2,t3,t4⟩:=ht
    have hnd:=h.r _ (Wc hi)
    &Gd.bind (P:=λb:List Bool×Bool=>MrkI g b.1/\MrkLe b0 b.1/\(b.2=false->b.1=b0/\t.2=false/\NodeIn b0 i g.nodes[i] g.nodes[i].refs.length)/\(b.2=true->b0.count true<b.1.count true)) ?_ λb hb=>.some (.inl ⟨b,rfl,hb.1,hb.2.1,λe=>⟨(hb.2.2.1 e).1,λk hk hki=>?_⟩,hb.2.2.2⟩)
    ·&.atN hi ?_
     &Gd.for g.nodes[i].refs.length (λ(t:List Bool×Bool) i=>(t.1,t.2,i)) (λj b=>MrkI g b.1/\MrkLe b0 b.1/\(b.2=false->b.1=b0/\t.2=false/\NodeIn b0 i g.nodes[i] j)/\(b.2=true->b0.count true<b.1.count true)) t rfl (λ_ _=>rfl) Oo ⟨t1,t2,λe=>⟨(t3 e).1,e,λ_ j _ hj=>by omega⟩,t4⟩ (λj hj b hb=>?_) (λb hb=>hb)
     ð⟨b1,b2,b3,b4⟩:=hb
     have hbi:i<b.1.length:=by rw [b1.len];~hi
     have keep:(¬ b.1[i]=true\/(∀ v:Nat,g.nodes[i].refs[j]=(v:Int)->b.1[v]?=some true))->(b.2=false->b.1=b0/\t.2=false/\NodeIn b0 i g.nodes[i] (j+1)):=λhk e=>by
      ð⟨e1,e2,e3⟩:=b3 e
      &⟨e1,e2,λhbi' j' hj' hjj v hv=>?_⟩
      by_cases ej:j'=j
      ·subst ej
       rcases hk with hk | hk
       ·exfalso
        rw [<- e1,Wa hbi] at hbi'
        injection hbi' with hbi'
        ~hk hbi'
       ·rw [<- e1];~hk v hv
      ·~e3 hbi' j' hj' Oo v hv
     &.atN hj (.atN hbi (.ite (λk1=>?_) λk1=>.some (.inl ⟨b,rfl,b1,b2,keep (.inl k1),b4⟩)))
     have k1:b.1[i]=true:=k1
     have hri:Rch g i:=b1.snd i (by rw [Wa hbi,k1])
     &.ite (λk2=>?_) λk2=>.some (.inl ⟨b,rfl,b1,b2,keep (.inr λv hv=>by
      have k2:¬ 0<=g.nodes[i].refs[j]:=k2
      omega),b4⟩)
     have k2:0<=g.nodes[i].refs[j]:=k2
     obtain ⟨w,ew⟩:∃ w:Nat,g.nodes[i].refs[j]=(w:Int):=⟨g.nodes[i].refs[j].toNat,Oo⟩
     have hrw:Rch g w:=.edge hri (Wa hi) (ew▸Wc hj)
     have hwl:w<b.1.length:=by rw [b1.len];~h.rlt hrw
     rw [ew]
     &.atN hwl (.ite (λk3=>.some (.inl ⟨b,rfl,b1,b2,keep (.inr λv hv=>?_),b4⟩)) λk3=>.some (.inl ⟨(b.1.set w true,true),by rw [Wd],b1.set hrw,b2.trans (.set _ _),λe=>(by cases e),λ_=>?_⟩))
     ·have k3:b.1[w]=true:=k3
      have:v=w:=by omega
      rw [this,Wa hwl,k3]
     ·have k3:¬ b.1[w]=true:=k3
      have h1:=mark_set hwl k3
      show b0.count true<(b.1.set w true).count true
      by_cases e:b.2=true
      ·have:=b4 e;omega
      ·rw [(b3 (by simpa using e)).1] at h1 ⊢
       ~h1
    ·ð⟨e1,e2,e3⟩:=hb.2.2.1 e
     by_cases ek:k=i
     ·subst ek;~e3
     ·~(t3 e2).2 k hk Oo
   ·ð⟨t1,t2,t3,t4⟩:=ht
    &⟨⟨t1,λi v h1 h2=>t2 v (hb2 i v h1 h2),λe k hk=>?_⟩,?_⟩
    ·ð⟨e1,e2⟩:=t3 e
     rw [e1]
     ~e2 k hk hk
    ·show 2*(g.nodes.length-t.1.count true)+_<2*(g.nodes.length-b0.count true)+_
     have hc:t.1.count true<=g.nodes.length:=by rw [<- t1.len];~List.count_le_length
     by_cases e:t.2=true
     ·have:=t4 e
      simp only [e,if_true]
      omega
     ·rw [(t3 (by simpa using e)).1]
      simp only [e,if_true]
      simp
  ·have hfl:fl0=false:=by simpa using hfl
   have hcl:=hb3 hfl
   induction hv with
   | root h1 h2=>~hb2 _ _ h1 h2
   | edge h1 h2 h3 ih =>
    ð⟨hl,e⟩:=Wq.1 h2
    subst e
    ð⟨j,hj,ej⟩:=UB h3
    ~hcl _ hl ih j hj hj _ ej
 ð⟨hb1,hb2⟩:=hbs
 have hbl:=hb1.len
 have hiff:∀ (i:Nat) (hi:i<bs.length),bs[i]=true<->Rch g i:=λi hi=>⟨λk=>hb1.snd i (by rw [Wa hi,k]),λk=>by
  have:=hb2 i k
  rw [Wa hi] at this
  injection this⟩
 &Gd.bind (P:=λb=>b=rchL g) ?_ λb hb=>.some hb
 &Gd.for bs.length (λ(t:List Int) i=>(t,i)) (λi t=>t.length<=i/\t=((List.range i).filter λv=>bP (Rch g v)).map λ(v:Nat)=>(v:Int)) [] rfl (λ_ _=>rfl) Oo ⟨Os,rfl⟩ (λi hi t ht=>?_) (λt ht=>by rw [ht.2,hbl];rfl)
 have ht1:=ht.1
 rw [Ua,VA,WH,<- ht.2]
 &.atN hi (.ite (λk=>.pos (X9 (l:=t) Oo Oo) (.some (.inl ⟨t++[(i:Int)],rfl,by rw [We,WK];omega,?_⟩))) λk=>.some (.inl ⟨t,rfl,Oo,?_⟩))
 ·have k:bs[i]=true:=k
  simp [VM,J5 ((hiff i hi).1 k)]
 ·have k:¬ bs[i]=true:=k
  simp [VM,Qdd (λq=>k ((hiff i hi).2 q))]
def nodW(nd:Nod):Int:=1+(nd.refs.length:Int)+(nd.data.length:Int)
noncomputable def livW(g:Gra):Int:=((rchL g).map λv=>((g.nodes[v.toNat]?).map nodW).getD 0).sum
theorem live29_c{g:Gra}(h:GOk g):Qan g=some (livW g):=by
 have hn:=h.n
 have hlen:(rchL g).length<=g.nodes.length:=by
  unfold rchL
  rw [Wb]
  have:=W8 (λv=>bP (Rch g v)) (List.range g.nodes.length)
  rw [WV] at this
  ~this
 have hmem:∀ i (hi:i<(rchL g).length),∃ v:Nat,(rchL g)[i]=(v:Int)/\v<g.nodes.length:=λi hi=>by
  have:=Wc hi
  ð⟨v,hv,e⟩:=Wk.1 (show (rchL g)[i]∈((List.range g.nodes.length).filter λv=>bP (Rch g v)).map λ(v:Nat)=>(v:Int) from this)
  ~⟨v,e.symm,Wz.1 (WI.1 hv).1⟩
 &Gd.eq ?_
 unfold Qan
 &Gd.bind (P:=λb=>b=livW g) ?_ λb hb=>.some hb
 &.call (reach_c h) ?_
 &Gd.fold (rchL g) (λ(t:Int) i=>(t,i)) (λt v=>t+((g.nodes[v.toNat]?).map nodW).getD 0) 0 (λi t=>0<=t/\t<=48*(i:Int)) rfl (λ_ _=>rfl) Oo ⟨Vo _,Oo⟩ (λi hi t ht=>?_) (λ_=>?_)
 ·ð⟨v,e,hv⟩:=hmem i hi
  have hnd:=h.r _ (Wc hv)
  rw [e,Wd,Wa hv]
  have e2:((some g.nodes[v]).map nodW).getD 0=1+(g.nodes[v].refs.length:Int)+(g.nodes[v].data.length:Int):=rfl
  rw [e2]
  &⟨⟨Oo,Oo⟩,.atN hi ?_⟩
  rw [e]
  &.atN hv (.some ?_)
  dsimp only
  rw [Qd (n:=1+(g.nodes[v].refs.length:Int)) Oo,Qd (n:=1+(g.nodes[v].refs.length:Int)+(g.nodes[v].data.length:Int)) Oo,Qd (n:=t+_) Oo]
 ·show List.foldl _ 0 (rchL g)=livW g
  unfold livW
  rw [List.sum_eq_foldl,List.foldl_map]
theorem copy29_c{g:Gra}(h:GOk g):Qao g=some g:=by
 have hu:=h.u
 have hv:=h.v
 have hn:=h.n
 &Gd.eq ?_
 unfold Qao
 &.pos Oo (.pos Oo ?_)
 &Gd.bind (P:=λb=>b=g.nodes) ?_ λb hb=>.some (by rw [hb])
 &Gd.for g.nodes.length (λ(t:List Nod) i=>(t,i)) (λi t=>t=g.nodes.take i) [] rfl (λ_ _=>rfl) Oo rfl (λi hi t ht=>?_) (λt ht=>by rw [ht,WR])
 have hnd:=h.r _ (Wc hi)
 have hl:t.length<=i:=by rw [ht,Wi];omega
 &.atN hi (.pos Oo (.pos Oo (.pos (show ((t.length:Int)+1)*48<=140737488355328/\(t.length:Int)+1<=9223372036854775807 by omega) (.some (.inl ⟨t++[g.nodes[i]],rfl,?_⟩)))))
 rw [ht,V9 hi]
def frsG(g:Gra):Option Nat:=(List.range g.used.length).find? λi=>g.used[i]? == some false
def frsV:Option Nat->Int
 | some i=>((i+1:Nat):Int)
 | none=>0
theorem free29_c{g:Gra}(h:GOk g):Jp g=some (frsV (frsG g)):=by
 have hu:=h.u
 &Gd.eq ?_
 unfold Jp
 &Gd.bndR (P:=λz=>(z = .inl ()/\frsG g=none)\/(∃ i,z = .inr ((i+1:Nat):Int)/\frsG g=some i)) ?_ (λ_ hP=>?_) (λr hP=>?_)
 ·&Gd.find g.used (λx=>x=false) Oo (λi hi hn=>?_) (λhn=>.inl ⟨rfl,?_⟩)
  ·&.atN hi (.ite (λk=>.some (.inl ⟨by simp [show g.used[i]=true from k],rfl⟩)) λk=>?_)
   have k:¬ g.used[i]=true:=k
   have k2:g.used[i]=false:=by simpa using k
   &.some (.inr ⟨k2,_,rfl,.inr ⟨i,by rw [Qd Oo];rfl,?_⟩⟩)
   unfold frsG
   rw [YF]
   &⟨by simp [Wa hi,k2],Wz.2 hi,λj hj=>?_⟩
   have:=hn j Oo hj
   simp [Wa (show j<g.used.length by omega),this]
  ·unfold frsG
   rw [U9]
   intro i hi
   rw [Wz] at hi
   have:=hn _ (Wc hi)
   simp [Wa hi,this]
 ·rcases hP with ⟨_,hP⟩ | ⟨i,hP,_⟩
  ·~.some (by rw [hP];rfl)
  ·cases hP
 ·rcases hP with ⟨hP,_⟩ | ⟨i,hP,e⟩
  ·cases hP
  ·injection hP with hP
   rw [e,hP];rfl
theorem frsG_lt{g:Gra}(h:GOk g){i:Nat}(e:frsG g=some i):i<32:=by
 have:=Wz.1 (Ub e)
 have:=h.u
 omega
def Qgd(g:Gra)(a:Int)(nz:Bool):Int:=if a=0 then (if nz=true then 16 else 0) else if a<0\/32<a then 14 else if g.used[(a-1).toNat]?=some true then 0 else 14
theorem Qc0{g:Gra}(h:GOk g)(a:Int)(nz:Bool):Zi g a nz=some (Qgd g a nz):=by
 have h1:=h.u
 &Gd.eq ?_
 unfold Zi Qgd
 &.ite (λh0=>?_) λh0=>?_
 ·rw [if_pos h0]
  ~.ite (λk=>.some (by rw [if_pos k])) λk=>.some (by rw [if_neg k])
 ·rw [if_neg h0]
  &.ite (λk=>.some (by rw [if_pos (.inl k)])) λk1=>.ite (λk=>.some (by rw [if_pos (.inr k)])) λk2=>?_
  rw [if_neg Oo,Qd Oo]
  obtain ⟨i,rfl⟩:∃ i:Nat,a=((i+1:Nat):Int):=⟨(a-1).toNat,Oo⟩
  have hi:i<g.used.length:=by omega
  rw [show ((i+1:Nat):Int)-1=(i:Int) by omega,Wd,Wa hi]
  &.atN hi (.ite (λk=>.some (by rw [if_pos (by rw [show g.used[i]=true from k])])) λk=>.some (by rw [if_neg (by simpa using k)]))
theorem hdlG_0{g:Gra}{a:Int}{nz:Bool}(h:Qgd g a nz=0):(a=0/\nz=false)\/∃ i:Nat,a=((i+1:Nat):Int)/\i<32/\g.used[i]?=some true:=by
 unfold Qgd at h
 split at h
 ·rename_i e
  split at h
  ·cases h
  ·rename_i k;~.inl ⟨e,by simpa using k⟩
 ·split at h
  ·cases h
  ·split at h
   ·rename_i k
    ~.inr ⟨(a-1).toNat,Oo,Oo,k⟩
   ·cases h
def nodE(g:Gra)(a:Int):Int:=if a=0 then -1 else (g.roots[(a-1).toNat]?).getD 0
theorem QcZ{g:Gra}(h:GOk g){a:Int}(ha:0<=a/\a<=32):Zh g a=some (nodE g a):=by
 have h1:=h.v
 &Gd.eq ?_
 unfold Zh nodE
 &.ite (λh0=>.some (by rw [if_pos h0])) λh0=>?_
 rw [if_neg h0,Qd Oo]
 obtain ⟨i,rfl⟩:∃ i:Nat,a=((i+1:Nat):Int):=⟨(a-1).toNat,Oo⟩
 have hi:i<g.roots.length:=by omega
 rw [show ((i+1:Nat):Int)-1=(i:Int) by omega,Wd]
 &.atN hi (.some ?_)
 rw [Wa hi];rfl
theorem nodE_i{g:Gra}(h:GOk g){i:Nat}(hu:g.used[i]?=some true):∃ k:Nat,nodE g ((i+1:Nat):Int)=(k:Int)/\k<g.nodes.length:=by
 ð⟨k,e,hk⟩:=h.t i hu
 &⟨k,?_,hk⟩
 unfold nodE
 rw [if_neg Oo,show ((i+1:Nat):Int)-1=(i:Int) by omega,Wd,e];rfl
theorem Qfk{g:Gra}(h:GOk g){a:Int}(ha:Qgd g a false=0):(nodE g a = -1\/(0<=nodE g a/\nodE g a<g.nodes.length))/\0<=a/\a<=32:=by
 rcases hdlG_0 ha with ⟨rfl,_⟩ | ⟨i,rfl,hi,hu⟩
 ·~⟨.inl (by unfold nodE;rw [if_pos rfl]),Oo,Oo⟩
 ·ð⟨k,e,hk⟩:=nodE_i h hu
  ~⟨.inr (by rw [e];omega),Oo,Oo⟩
def rotG(g:Gra)(v:Int):Option Nat->Gra×Ans
 | none=>(g,⟨15,0⟩)
 | some i=>(⟨g.nodes,g.used.set i true,g.roots.set i v⟩,⟨0,((i+1:Nat):Int)⟩)
def newG(g:Gra)(a b:Int):Option Nat->Gra×Ans
 | none=>(g,⟨15,0⟩)
 | some i=>(⟨g.nodes++[⟨List.replicate a.toNat (-1),List.replicate b.toNat 0⟩],g.used.set i true,g.roots.set i (g.nodes.length:Int)⟩,⟨0,((i+1:Nat):Int)⟩)
noncomputable def nodG(g:Gra)(o:AOp)(n:Nat)(nd:Nod):Gra×Ans :=
 if o.code=7 then (⟨g.nodes,g.used.set (o.a-1).toNat false,g.roots.set (o.a-1).toNat (-1)⟩,⟨0,0⟩)
 else if o.code=9 then (g,⟨0,wu (256*(nd.refs.length:Int)+(nd.data.length:Int))⟩)
 else if o.b<0\/(if o.code=2\/o.code=3 then (nd.refs.length:Int) else (nd.data.length:Int))<=o.b then (g,⟨17,0⟩)
 else if o.code=4 then (g,⟨0,(nd.data[o.b.toNat]?).getD 0⟩)
 else if o.code=5 then (⟨g.nodes.set n ⟨nd.refs,nd.data.set o.b.toNat (wu o.c_)⟩,g.used,g.roots⟩,⟨0,0⟩)
 else if o.code=3 then
  (if Qgd g o.c_ false=0 then (⟨g.nodes.set n ⟨nd.refs.set o.b.toNat (nodE g o.c_),nd.data⟩,g.used,g.roots⟩,⟨0,0⟩) else (g,⟨Qgd g o.c_ false,0⟩))
 else if (nd.refs[o.b.toNat]?).getD 0 = -1 then (g,⟨0,0⟩)
 else rotG g ((nd.refs[o.b.toNat]?).getD 0) (frsG g)
noncomputable def doG(g:Gra)(o:AOp):Gra×Ans :=
  if o.code=1 then
    (if o.a<0\/15<o.a\/o.b<0\/32<o.b then (g,⟨13,0⟩)
     else newG g o.a o.b (frsG g))
  else if o.code=8 then (g,⟨0,0⟩)
  else if o.code=10 then (g,⟨0,wu (livW g)⟩)
  else if o.code=6 then
    (if Qgd g o.a false=0 then
      (if Qgd g o.b false=0 then (g,⟨0,if nodE g o.a=nodE g o.b then 1 else 0⟩) else (g,⟨Qgd g o.b false,0⟩))
     else (g,⟨Qgd g o.a false,0⟩))
  else if o.code=7\/o.code=9\/o.code=2\/o.code=3\/o.code=4\/o.code=5 then
    (if Qgd g o.a true=0 then nodG g o (nodE g o.a).toNat ((g.nodes[(nodE g o.a).toNat]?).getD ⟨[],[]⟩) else (g,⟨Qgd g o.a true,0⟩))
  else (g,⟨20,0⟩)
set_option maxHeartbeats 1000000 in
theorem do29_c{g:Gra}(h:GOk g)(o:AOp):QbA g o=some (doG g o):=by
  have hu:=h.u
  have hv:=h.v
  have hn:=h.n
  have fail:∀ e,Qx g e=some (g,⟨e,0⟩):=λ_=>rfl
  &Gd.eq ?_
  unfold QbA doG
  &.call (copy29_c h) ?_
  &Gd.bndR (P:=λz=>(z = .inl ()/\(o.code=7\/o.code=9\/o.code=2\/o.code=3\/o.code=4\/o.code=5))\/z = .inr (doG g o)) ?_ (λ_ hP=>?_) (λr hP=>?_)
  · &.ite (λk1=>?_) λk1=>?_
    · have k1:o.code=1:=k1
      have hG:doG g o=if o.a<0\/15<o.a\/o.b<0\/32<o.b then (g,⟨13,0⟩)
        else newG g o.a o.b (frsG g):=by
        unfold doG;rw [if_pos k1]
      &.ite (λk=>.call (fail 13) (.some (.inr (by rw [hG,if_pos (.inl k)])))) λka=>?_
      &.ite (λk=>.call (fail 13) (.some (.inr (by rw [hG,if_pos (.inr (.inl k))])))) λkb=>?_
      &.ite (λk=>.call (fail 13) (.some (.inr (by rw [hG,if_pos (.inr (.inr (.inl k)))])))) λkc=>?_
      &.ite (λk=>.call (fail 13) (.some (.inr (by rw [hG,if_pos (.inr (.inr (.inr k)))])))) λkd=>?_
      rw [if_neg Oo] at hG
      &.call (free29_c h) ?_
      cases e:frsG g with
      | none =>
        rw [e] at hG
        ~.pos rfl (.call (fail 15) (.some (.inr (by rw [hG];rfl))))
      | some i =>
        rw [e] at hG
        have hi:=frsG_lt h e
        have ef:frsV (some i)=((i+1:Nat):Int):=rfl
        rw [ef]
        &.neg (by show ¬ ((i+1:Nat):Int)=0;omega) (.pos Oo ?_)
        &Gd.bind (P:=λb:List Int=>b=List.replicate o.a.toNat (-1)) ?_ λb hb=>?_
        · obtain ⟨n,en⟩:∃ n:Nat,o.a=(n:Int):=⟨o.a.toNat,Oo⟩
          rw [en,Wd]
          &Gd.for n (λ(t:List Int) i=>(t,i)) (λi t=>t=List.replicate i (-1)) [] rfl (λ_ _=>rfl) Oo rfl (λj hj t ht=>?_) (λt ht=>by rw [ht])
          have hl:t.length=j:=by rw [ht,Ve]
          &.pos (X9 (l:=t) Oo Oo) (.some (.inl ⟨t++[-1],rfl,?_⟩))
          rw [ht,Ys]
        · subst hb
          &.pos Oo ?_
          rw [Qd Oo,show ((i+1:Nat):Int)-1=(i:Int) by omega]
          &.atN Oo (.atN Oo (.some (.inr ?_)))
          rw [hG]
          unfold newG
          dsimp only
          rw [We,WK,Qd Oo,Wd,Xv (n:=((i+1:Nat):Int)) Oo,show ((g.nodes.length+1:Nat):Int)-1=(g.nodes.length:Int) by omega]
    have k1:¬ o.code=1:=k1
    &.ite (λk8=>.some (.inr (by unfold doG;rw [if_neg k1,if_pos k8]))) λk8=>?_
    &.ite (λk10=>.call (live29_c h) (.some (.inr (by unfold doG;rw [if_neg k1,if_neg k8,if_pos k10])))) λk10=>?_
    &.ite (λk6=>?_) λk6=>?_
    · have hG:doG g o=if Qgd g o.a false=0 then
          (if Qgd g o.b false=0 then (g,⟨0,if nodE g o.a=nodE g o.b then 1 else 0⟩) else (g,⟨Qgd g o.b false,0⟩))
         else (g,⟨Qgd g o.a false,0⟩):=by unfold doG;rw [if_neg k1,if_neg k8,if_neg k10,if_pos k6]
      &.call (Qc0 h _ _) (.ite (λha=>?_) λha=>.call (fail _) (.some (.inr (by rw [hG,if_neg ha]))))
      have ha:Qgd g o.a false=0:=ha
      rw [if_pos ha] at hG
      &.call (Qc0 h _ _) (.ite (λhb=>?_) λhb=>.call (fail _) (.some (.inr (by rw [hG,if_neg hb]))))
      have hb:Qgd g o.b false=0:=hb
      rw [if_pos hb] at hG
      &.call (QcZ h (Qfk h ha).2) (.call (QcZ h (Qfk h hb).2) ?_)
      ~.ite (λk=>.some (.inr (by rw [hG,if_pos k]))) λk=>.some (.inr (by rw [hG,if_neg k]))
    &.ite (λk=>.some (.inl ⟨rfl,.inl k⟩)) λk7=>.ite (λk=>.some (.inl ⟨rfl,.inr (.inl k)⟩)) λk9=>.ite (λk=>.some (.inl ⟨rfl,.inr (.inr (.inl k))⟩)) λk2=>.ite (λk=>.some (.inl ⟨rfl,.inr (.inr (.inr (.inl k)))⟩)) λk3=>.ite (λk=>.some (.inl ⟨rfl,.inr (.inr (.inr (.inr (.inl k))))⟩)) λk4=>.ite (λk=>.some (.inl ⟨rfl,.inr (.inr (.inr (.inr (.inr k))))⟩)) λk5=>.call (fail 20) (.some (.inr ?_))
    unfold doG
    rw [if_neg k1,if_neg k8,if_neg k10,if_neg k6,if_neg]
    rintro (k | k | k | k | k | k)
    · ~k7 k
    · ~k9 k
    · ~k2 k
    · ~k3 k
    · ~k4 k
    · ~k5 k
  · rcases hP with ⟨_,hc⟩ | hP
    · have hG:doG g o=if Qgd g o.a true=0 then nodG g o (nodE g o.a).toNat ((g.nodes[(nodE g o.a).toNat]?).getD ⟨[],[]⟩) else (g,⟨Qgd g o.a true,0⟩):=by
        unfold doG
        rw [if_neg Oo,if_neg Oo,if_neg Oo,if_neg Oo,if_pos hc]
      show Gd (λx=>x=doG g o) _
      rw [hG]
      &.call (Qc0 h _ _) (.ite (λha=>?_) λha=>.call (fail _) (.some (by rw [if_neg ha])))
      have ha:Qgd g o.a true=0:=ha
      rw [if_pos ha]
      obtain ⟨i,ei,hi,hui⟩:∃ i:Nat,o.a=((i+1:Nat):Int)/\i<32/\g.used[i]?=some true:=by
        rcases hdlG_0 ha with ⟨_,k⟩ | k
        · cases k
        · ~k
      ð⟨n,en,hnl⟩:=nodE_i h hui
      rw [<- ei] at en
      have hnd:=h.r _ (Wc hnl)
      &.call (QcZ h Oo) ?_
      rw [en,Wd,Wa hnl]
      &.atN hnl ?_
      have em:o.a-1=(i:Int):=by omega
      unfold nodG
      &.ite (λk7=>?_) λk7=>?_
      · rw [if_pos k7,em,Qd Oo,Wd]
        ~.atN Oo (.atN Oo (.some rfl))
      have k7:¬ o.code=7:=k7
      rw [if_neg k7]
      &.ite (λk9=>?_) λk9=>?_
      · rw [if_pos k9]
        &.some ?_
        dsimp only [Option.getD_some]
        rw [Qd (n:=256*_) Oo,Qd (n:=256*(g.nodes[n].refs.length:Int)+_) Oo]
      have k9:¬ o.code=9:=k9
      rw [if_neg k9]
      dsimp only [Option.getD_some]
      &Gd.bind (P:=λb=>b=if o.code=2\/o.code=3 then (g.nodes[n].refs.length:Int) else (g.nodes[n].data.length:Int)) ?_ λb hb=>?_
      · &.ite (λk=>.some (by rw [if_pos (.inl k)])) λk2=>.ite (λk=>.some (by rw [if_pos (.inr k)])) λk3=>.some (by rw [if_neg];rintro (k | k);~k2 k;~k3 k)
      subst hb
      &.ite (λk=>.call (fail 17) (.some (by rw [if_pos (.inl k)]))) λkb=>.ite (λk=>.call (fail 17) (.some (by rw [if_pos (.inr k)]))) λkc=>?_
      have kb:¬ o.b<0:=kb
      rw [if_neg (by rintro (k | k);~kb k;~kc k)]
      obtain ⟨m,em2⟩:∃ m:Nat,o.b=(m:Int):=⟨o.b.toNat,Oo⟩
      rw [em2,Wd]
      rw [em2] at kc
      &.ite (λk4=>?_) λk4=>?_
      · have k4:o.code=4:=k4
        rw [if_neg Oo] at kc
        rw [if_pos k4]
        &.atN Oo (.some ?_)
        rw [Wa Oo];rfl
      have k4:¬ o.code=4:=k4
      rw [if_neg k4]
      &.ite (λk5=>?_) λk5=>?_
      · have k5:o.code=5:=k5
        rw [if_neg Oo] at kc
        rw [if_pos k5]
        &.call (QcZ h Oo) ?_
        rw [en]
        ~.atN hnl (.atN Oo (.some rfl))
      have k5:¬ o.code=5:=k5
      rw [if_neg k5]
      rw [if_pos Oo] at kc
      &.ite (λk3=>?_) λk3=>?_
      · rw [if_pos k3]
        &.call (Qc0 h _ _) (.ite (λhc=>?_) λhc=>.call (fail _) (.some (by rw [if_neg hc])))
        have hc:Qgd g o.c_ false=0:=hc
        rw [if_pos hc]
        &.call (QcZ h Oo) ?_
        rw [en]
        &.atN hnl (.call (QcZ h (Qfk h hc).2) (.atN Oo (.some rfl)))
      have k3:¬ o.code=3:=k3
      rw [if_neg k3]
      &.atN Oo ?_
      have hm:m<g.nodes[n].refs.length:=by omega
      simp only [Wa hm,WE]
      &.ite (λk=>.some (by rw [if_pos k])) λk=>?_
      rw [if_neg k]
      &.call (free29_c h) ?_
      cases e:frsG g with
      | none=>~.pos rfl (.call (fail 15) (.some rfl))
      | some j =>
        have hj:=frsG_lt h e
        have ef:frsV (some j)=((j+1:Nat):Int):=rfl
        rw [ef]
        &.neg (by show ¬ ((j+1:Nat):Int)=0;omega) ?_
        rw [Qd Oo,show ((j+1:Nat):Int)-1=(j:Int) by omega]
        &.atN Oo (.atN Oo (.some ?_))
        unfold rotG
        dsimp only
        rw [Wd,Xv (n:=((j+1:Nat):Int)) Oo]
    · cases hP
  · rcases hP with ⟨hP,_⟩ | hP
    · cases hP
    · injection hP with hP
theorem GOk.rot{g:Gra}(h:GOk g){i:Nat}(hi:i<32){v:Int}(hv:0<=v/\v<g.nodes.length):GOk ⟨g.nodes,g.used.set i true,g.roots.set i v⟩:=by
 have h1:=h.u
 have h2:=h.v
 &⟨by show (g.used.set i true).length=32;rw [Wv];~h1,by show (g.roots.set i v).length=32;rw [Wv];~h2,h.n,λj hj=>?_,h.r⟩
 have hj:(g.used.set i true)[j]?=some true:=hj
 show ∃ k:Nat,(g.roots.set i v)[j]?=some (k:Int)/\k<g.nodes.length
 by_cases e:i=j
 ·subst e
  ~⟨v.toNat,by rw [WD Oo];congr 1;omega,Oo⟩
 ·rw [WC e] at hj ⊢
  ~h.t j hj
theorem GOk.node{g:Gra}(h:GOk g){n:Nat}{nd:Nod}(hnd:nd.refs.length<=15/\nd.data.length<=32/\(∀ v∈nd.refs,v = -1\/(0<=v/\v<g.nodes.length))/\∀ x∈nd.data,U64 x):GOk ⟨g.nodes.set n nd,g.used,g.roots⟩:=by
 &⟨h.u,h.v,by show (g.nodes.set n nd).length<=_;rw [Wv];~h.n,λj hj=>?_,λx hx=>?_⟩
 ·show ∃ k:Nat,g.roots[j]?=some (k:Int)/\k<(g.nodes.set n nd).length
  rw [Wv];~h.t j hj
 ·show x.refs.length<=15/\x.data.length<=32/\(∀ v∈x.refs,v = -1\/(0<=v/\v<(g.nodes.set n nd).length))/\_
  rw [Wv]
  rcases W4 hx with k | k
  ·~h.r x k
  ·rw [k];~hnd
theorem GOk.drop{g:Gra}(h:GOk g)(i:Nat):GOk ⟨g.nodes,g.used.set i false,g.roots.set i (-1)⟩:=by
 have h1:=h.u
 have h2:=h.v
 &⟨by show (g.used.set i false).length=32;rw [Wv];~h1,by show (g.roots.set i (-1)).length=32;rw [Wv];~h2,h.n,λj hj=>?_,h.r⟩
 have hj:(g.used.set i false)[j]?=some true:=hj
 show ∃ k:Nat,(g.roots.set i (-1))[j]?=some (k:Int)/\k<g.nodes.length
 by_cases e:i=j
 ·subst e
  rw [Ul] at hj
  simp at hj
 ·rw [WC e] at hj ⊢
  ~h.t j hj
theorem GOk.more{g:Gra}(h:GOk g)(hn:g.nodes.length<1000000){nd:Nod}(hnd:nd.refs.length<=15/\nd.data.length<=32/\(∀ v∈nd.refs,v = -1)/\∀ x∈nd.data,U64 x):GOk ⟨g.nodes++[nd],g.used,g.roots⟩:=by
 have hl:(g.nodes++[nd]).length=g.nodes.length+1:=by rw [We,WK]
 &⟨h.u,h.v,by show (g.nodes++[nd]).length<=_;omega,λj hj=>?_,λx hx=>?_⟩
 ·ð⟨k,e,hk⟩:=h.t j hj
  ~⟨k,e,by show k<(g.nodes++[nd]).length;omega⟩
 ·show x.refs.length<=15/\x.data.length<=32/\(∀ v∈x.refs,v = -1\/(0<=v/\v<((g.nodes++[nd]).length:Int)))/\_
  rw [hl]
  rcases Wn.1 hx with k | k
  ·ð⟨a,b,c,e⟩:=h.r x k
   ~⟨a,b,λv hv=>(c v hv).imp id λq=>by omega,e⟩
  ·rw [Wo.1 k]
   ~⟨hnd.1,hnd.2.1,λv hv=>.inl (hnd.2.2.1 v hv),hnd.2.2.2⟩
theorem rotG_ok{g:Gra}(h:GOk g){v:Int}(hv:0<=v/\v<g.nodes.length):GOk (rotG g v (frsG g)).1/\(rotG g v (frsG g)).1.nodes=g.nodes:=by
 cases e:frsG g with
 | none=>~⟨h,rfl⟩
 | some i=>~⟨h.rot (frsG_lt h e) hv,rfl⟩
theorem newG_ok{g:Gra}(h:GOk g)(hn:g.nodes.length<1000000){a b:Int}(hab:a<=15/\b<=32):GOk (newG g a b (frsG g)).1/\(newG g a b (frsG g)).1.nodes.length<=g.nodes.length+1:=by
 cases e:frsG g with
 | none=>~⟨h,by show g.nodes.length<=_;omega⟩
 | some i =>
  have hm:=h.more hn (nd:=⟨List.replicate a.toNat (-1),List.replicate b.toNat 0⟩) ⟨by rw [Ve];omega,by rw [Ve];omega,λv hv=>(UI.1 hv).2,λx hx=>by rw [(UI.1 hx).2];unfold U64;omega⟩
  have hl:(g.nodes++[(⟨List.replicate a.toNat (-1),List.replicate b.toNat 0⟩:Nod)]).length=g.nodes.length+1:=by rw [We,WK]
  ~⟨hm.rot (frsG_lt h e) (v:=(g.nodes.length:Int)) ⟨Oo,by show (g.nodes.length:Int)<((g.nodes++[_]).length:Int);rw [hl];omega⟩,by show (g.nodes++[_]).length<=_;rw [hl];omega⟩
theorem doG_ok{g:Gra}(h:GOk g)(hn:g.nodes.length<1000000)(o:AOp):GOk (doG g o).1/\(doG g o).1.nodes.length<=g.nodes.length+1:=by
 have same:GOk g/\g.nodes.length<=g.nodes.length+1:=⟨h,Oo⟩
 unfold doG
 split
 ·split
  ·~same
  ·rename_i k
   ~newG_ok h hn ⟨Oo,Oo⟩
 split
 ·~same
 split
 ·~same
 split
 ·split
  ·split <;> ~same
  ·~same
 split
 ·split
  ·rename_i ha
   obtain ⟨i,ei,hi,hui⟩:∃ i:Nat,o.a=((i+1:Nat):Int)/\i<32/\g.used[i]?=some true:=by
    rcases hdlG_0 ha with ⟨_,k⟩ | k
    ·cases k
    ·~k
   ð⟨n,en,hnl⟩:=nodE_i h hui
   rw [<- ei] at en
   have hnd:=h.r _ (Wc hnl)
   rw [en,Wd,Wa hnl]
   dsimp only [Option.getD_some]
   unfold nodG
   split
   ·~⟨h.drop _,by show g.nodes.length<=_;omega⟩
   split
   ·~same
   by_cases hb:o.b<0\/(if o.code=2\/o.code=3 then (g.nodes[n].refs.length:Int) else (g.nodes[n].data.length:Int))<=o.b
   ·rw [if_pos hb];~same
   rw [if_neg hb]
   split
   ·~same
   split
   ·&⟨h.node ⟨hnd.1,by show (g.nodes[n].data.set _ _).length<=32;rw [Wv];~hnd.2.1,hnd.2.2.1,λx hx=>?_⟩,by show (g.nodes.set _ _).length<=_;rw [Wv];omega⟩
    rcases W4 hx with k | k
    ·~hnd.2.2.2 x k
    ·rw [k];~wu_u _
   split
   ·split
    ·rename_i hc
     &⟨h.node ⟨by show (g.nodes[n].refs.set _ _).length<=15;rw [Wv];~hnd.1,hnd.2.1,λx hx=>?_,hnd.2.2.2⟩,by show (g.nodes.set _ _).length<=_;rw [Wv];omega⟩
     rcases W4 hx with k | k
     ·~hnd.2.2.1 x k
     ·rw [k];~(Qfk h hc).1
    ·~same
   ·split
    ·~same
    ·rename_i k7 k9 k4 k5 k3 hv
     have hm:o.b.toNat<g.nodes[n].refs.length:=by
      rename_i hcode
      rw [if_pos Oo] at hb
      omega
     rw [Wa hm] at hv ⊢
     dsimp only [Option.getD_some] at hv ⊢
     have:=hnd.2.2.1 _ (Wc hm)
     ð⟨r1,r2⟩:=rotG_ok h (this.resolve_left hv)
     ~⟨r1,by rw [r2];omega⟩
  ·~same
 ·~same
theorem new29_c:∃ g,QaW=some g/\GOk g/\g.nodes=[]/\∀ i:Nat,¬ g.used[i]?=some true:=by
 &⟨⟨[],List.replicate 32 false,List.replicate 32 (-1)⟩,Gd.eq ?_,?_,rfl,λi hi=>?_⟩
 ·unfold QaW
  &.pos Oo (.pos Oo ?_)
  &Gd.bind (P:=λb=>b=List.replicate 32 (-1)) ?_ λb hb=>.some (by rw [hb];rfl)
  have hl:(List.replicate (Int.toNat 32) (0:Int)).length=32:=by simp
  rw [hl]
  &Gd.for 32 (λ(t:List Int) i=>(t,i)) (λi t=>t=List.replicate i (-1)++List.replicate (32-i) 0) (List.replicate 32 0) rfl (λ_ _=>rfl) Oo Os (λi hi t ht=>?_) (λt ht=>by rw [ht];rfl)
  have hlt:t.length=32:=by rw [ht,We,Ve,Ve];omega
  &.atN (show i<t.length by omega) (.some (.inl ⟨t.set i (-1),by rw [Wd],?_⟩))
  rw [ht,Yk _ _ (by rw [Ve];~Wl _),Ve,Ui,show 32-i=(31-i)+1 by omega,U2,List.set_cons_zero,Ys,WP,show 32-(i+1)=31-i by omega]
  rfl
 ·&⟨Os,Os,Os,λi hi=>?_,λnd hnd=>by cases hnd⟩
  have hi:(List.replicate 32 false)[i]?=some true:=hi
  rw [VR] at hi
  split at hi <;> cases hi
 ·have hi:(List.replicate 32 false)[i]?=some true:=hi
  rw [VR] at hi
  split at hi <;> cases hi
theorem Zg{d:Qc}(h:Jg d){n:Int}(hn:1<=n/\n<=9223372036854775807):Gd (λr=>(0<=r.1/\r.1<n)/\Jg r.2) (Qb d n):=by
 ð⟨v,d',e,h1,h2,h3⟩:=next_spec h hn
 ~⟨(v,d'),e,⟨h1,h2⟩,h3⟩
theorem op1_g{d:Qc}(h:Jg d){c:List Int}(hc:∀ x∈c,0<=x/\x<=64)(hl:c.length<=64):Gd (λr=>(0<=r.1/\r.1<=64)/\r.2.1=c/\r.2.2.1=c/\Jg r.2.2.2) (Zb c d):=by
 unfold Zb
 &.ite (λk=>?_) λk=>?_
 ·&.bind (Zg h Oo) λr hr=>.some ⟨Oo,rfl,rfl,hr.2⟩
 ·&.bind (Zg h Oo) λr hr=>.ite (λk0=>?_) λk0=>?_
  ·&.bind (Zg hr.2 Oo) λr2 hr2=>.some ⟨Oo,rfl,rfl,hr2.2⟩
  ·&.bind (Zg hr.2 Oo) λr2 hr2=>?_
   have h1:=hr2.1
   &.at h1.1 Oo (.some ⟨hc _ (Wc _),rfl,rfl,hr2.2⟩)
theorem op_g{d:Qc}(h:Jg d){g:Gra}(hg:GOk g):Gd (λr=>OpI r.1/\Jg r.2) (QcP d g):=by
 have hu:=hg.u
 unfold QcP
 &Gd.bind (P:=λb:List Int=>(∀ x∈b,0<=x/\x<=64)/\b.length<=64) ?_ λc hc=>?_
 ·&Gd.for g.used.length (λ(t:List Int) i=>(t,i)) (λi t=>t.length<=i/\∀ x∈t,0<=x/\x<=64) [] rfl (λ_ _=>rfl) Oo ⟨Os,λx hx=>by cases hx⟩ (λi hi t ht=>?_) (λt ht=>⟨ht.2,by have:=ht.1;show t.length<=64;omega⟩)
  have ht1:=ht.1
  &.atN hi (.ite (λk=>.pos (X9 (l:=t) Oo Oo) (.some (.inl ⟨t++[w64 ((i:Int)+1)],rfl,by rw [We,WK];omega,λx hx=>?_⟩))) λk=>.some (.inl ⟨t,rfl,Oo,ht.2⟩))
  rcases Wn.1 hx with q | q
  ·~ht.2 x q
  ·rw [Wo.1 q,Qd Oo];omega
 &.bind (Zg h Oo) λr13 h13=>?_
 have k13:=h13.1
 &.at k13.1 (by simp only [WX,VH];omega) ?_
 &Gd.bind (P:=λ_=>True) ?_ λb15 _=>?_
 ·~.ite (λ_=>.ite (λ_=>.some trivial) λ_=>.some trivial) λ_=>.some trivial
 &.ite (λ_=>?_) λ_=>?_
 ·&.bind (Zg h13.2 Oo) λr21 h21=>.bind (Zg h21.2 Oo) λr22 h22=>?_
  have k22:=h22.1
  &Gd.bind (P:=λv=>1<=v/\v<=17) ?_ λv hv=>?_
  ·have hl:r22.1.toNat<([3,3,8,17]:List Int).length:=by simp only [WX,VH];omega
   have e:=at_int (l:=([3,3,8,17]:List Int)) k22.1 hl
   &⟨_,e,?_⟩
   have hm:=Wc hl
   generalize ([3,3,8,17]:List Int)[r22.1.toNat]=y at hm
   simp only [Wt,Vx,or_false] at hm
   omega
  ·&.bind (Zg h22.2 Oo) λr24 h24=>.some ⟨⟨?_⟩,h24.2⟩
   have:=h24.1
   show I64 r24.1
   unfold I64;omega
 &Gd.bind (P:=λ_=>True) ?_ λb25 _=>?_
 ·~.ite (λ_=>.some trivial) λ_=>.some trivial
 &.ite (λ_=>?_) λ_=>.ite (λ_=>?_) λ_=>.ite (λ_=>?_) λ_=>.ite (λ_=>?_) λ_=>.ite (λ_=>?_) λ_=>.ite (λ_=>?_) λ_=>.some ⟨⟨by show I64 0;unfold I64;omega⟩,h13.2⟩
 ·&.bind (op1_g h13.2 hc.1 hc.2) λr29 h29=>.pos (by rw [h29.2.2.1]) (.bind (Zg h29.2.2.2 Oo) λr30 h30=>.some ⟨⟨?_⟩,h30.2⟩)
  have:=h30.1
  show I64 r30.1
  unfold I64;omega
 ·&.bind (op1_g h13.2 hc.1 hc.2) λr29 h29=>.pos (by rw [h29.2.2.1]) (.bind (Zg h29.2.2.2 Oo) λr30 h30=>?_)
  rw [h29.2.2.1]
  &.bind (op1_g h30.2 hc.1 hc.2) λr31 h31=>.pos (by rw [h31.2.2.1]) (.some ⟨⟨?_⟩,h31.2.2.2⟩)
  have:=h30.1
  show I64 r30.1
  unfold I64;omega
 ·&.bind (op1_g h13.2 hc.1 hc.2) λr29 h29=>.pos (by rw [h29.2.2.1]) (.bind (Zg h29.2.2.2 Oo) λr30 h30=>.bind (Zg h30.2 Oo) λr31 h31=>.some ⟨⟨?_⟩,h31.2⟩)
  have:=h30.1
  show I64 r30.1
  unfold I64;omega
 ·&.bind (op1_g h13.2 hc.1 hc.2) λr29 h29=>.pos (by rw [h29.2.2.1]) ?_
  rw [h29.2.2.1]
  &.bind (op1_g h29.2.2.2 hc.1 hc.2) λr31 h31=>.pos (by rw [h31.2.2.1]) (.some ⟨⟨?_⟩,h31.2.2.2⟩)
  have:=h31.1
  show I64 r31.1
  unfold I64;omega
 ·&.bind (op1_g h13.2 hc.1 hc.2) λr29 h29=>.pos (by rw [h29.2.2.1]) (.some ⟨⟨by show I64 0;unfold I64;omega⟩,h29.2.2.2⟩)
 ·&.bind (op1_g h13.2 hc.1 hc.2) λr29 h29=>.pos (by rw [h29.2.2.1]) (.some ⟨⟨by show I64 0;unfold I64;omega⟩,h29.2.2.2⟩)
def newH(c:Cfg)(k:Int)(n:Nat):Hp:=⟨c,newS k n,List.replicate c.rules.length [],0,[],⟨List.replicate 32 false,List.replicate 32 0⟩,0,⟨0,0,0,0,0,0,0,0,0⟩,false⟩
theorem flat_nil{α:Type}(n:Nat):(List.replicate n ([]:List α)).flatten=[]:=by
 rw [List.flatten_eq_nil_iff]
 ~λl hl=>(UI.1 hl).2
theorem newH_inv{c:Cfg}(hc:Qeg c){k:Int}{n:Nat}(hk:Qco k)(hn:2<=n/\n<=64):QG (newH c k n) (List.replicate c.rules.length []):=by
 have hf:=flat_nil (α:=Itm) c.rules.length
 have hi:=new_inv hk hn
 have hmm:∀ x,x∉(List.replicate c.rules.length ([]:List Itm)).flatten:=λx hx=>by rw [hf] at hx;cases hx
 have hno:∀ q,¬ QaB (szS (newS k n)) (List.replicate c.rules.length ([]:List Itm)).flatten q:=λq hq=>by
  rw [hf] at hq
  ð⟨x,hx,_⟩:=hq
  cases hx
 &⟨hc,?_,by rw [Ve];rfl,by rw [hf];~hi,λx hx=>(hmm x hx).elim,λb hb x hx=>?_,λq hq=>by rw [(UI.1 hq).2];~Yj,λx hx=>(hmm x hx).elim,Vo _,⟨by simp [newH],by simp [newH],λi h h' _=>?_,λx hx=>by rw [(UI.1 hx).2];unfold U64;omega⟩,λi hi=>?_,λq hq=>absurd hq (hno q),⟨λx hx=>(by cases hx),λi h=>absurd h (WZ _)⟩,λx hx=>(by cases hx),λf t q hq=>?_,λq hq=>absurd hq (hno q),λ_=>?_⟩
 ·show List.replicate c.rules.length []=_
  rw [U6];rfl
 ·rw [Yh] at hx;cases hx
 ·have h':i<(List.replicate 32 (0:Int)).length:=h'
  show (List.replicate 32 (0:Int))[i]=0
  rw [Yh]
 ·rw [Xs] at hi
  have hi:(List.replicate 32 false)[i]?=some true:=hi
  rw [VR] at hi
  split at hi <;> cases hi
 ·ð⟨y,hy,_⟩:=hq
  cases hy
 ·have:Qk (newS k n).fs=List.range (newS k n).fs.length:=by
   unfold Qk
   rw [VY]
   intro i hi
   rw [Wz] at hi
   rw [QbW hi]
   simp [newS,feF]
  show 2*((newS k n).fs.length-(Qk (newS k n).fs).length)<=_
  rw [this,WV]
  omega
theorem new27_c{c:Cfg}(hc:Qeg c){k n:Int}(hk:Qco k)(hn:2<=n/\n<=64):QaX c k n=some (newH c k n.toNat,0):=by
 have hl:=hc.len
 &Gd.eq ?_
 unfold QaX
 &.call (check_c hc) (.pos rfl (.call (new_spec hk hn) (.pos rfl (.pos Oo (.pos Oo ?_)))))
 have hr:QaY=some ⟨List.replicate 32 false,List.replicate 32 0⟩:=by
  unfold QaY
  rw [if_pos Oo,if_pos Oo];rfl
 &.call hr (.some ?_)
 unfold newH
 rw [Wd]
structure MadeOk(c:Cfg)(r:Hp×Gra×Qc):Prop where
 inv:∃ BL,QG r.1 BL
 cfg:r.1.config=c
 ded:r.1.dead=false
 seq:r.1.seq<=20000
 gra:GOk r.2.1
 nod:r.2.1.nodes.length<=60
 dck:Jg r.2.2
theorem heapOf_g{c:Cfg}(hc:Qeg c){d:Qc}(hd:Jg d):Gd (MadeOk c) (JW d c):=by
 unfold JW
 &Gd.bind (P:=λr=>(3<=r.1/\r.1<=4)/\(6<=r.2.1/\r.2.1<=20)/\Jg r.2.2) ?_ λr hr=>?_
 ·unfold Qbm
  &.bind (Zg hd Oo) λr1 h1=>.bind (Zg h1.2 Oo) λr2 h2=>.some ?_
  have k1:=h1.1
  have k2:=h2.1
  &⟨?_,?_,h2.2⟩
  ·show 3<=w64 (3+r1.1)/\w64 (3+r1.1)<=4
   rw [Qd Oo];omega
  ·show 6<=w64 (6+r2.1)/\w64 (6+r2.1)<=20
   rw [Qd Oo];omega
 have hk:Qco r.1:=by unfold Qco;omega
 &.call (new27_c hc hk Oo) ?_
 ð⟨g0,eg,hg0,gn,_⟩:=new29_c
 &.call eg ?_
 &Gd.bind (P:=λb:Qc×Hp×Gra=>MadeOk c (b.2.1,b.2.2,b.1)) ?_ λb hb=>.some hb
 &.bind (Zg hr.2.2 Oo) λr6 h6=>?_
 have k6:=h6.1
 &Gd.loop (λ(s:Qc×Hp×Gra×Int)=>Jg s.1/\(∃ BL,QG s.2.1 BL)/\s.2.1.config=c/\s.2.1.dead=false/\GOk s.2.2.1/\(0<=s.2.2.2/\s.2.2.2<=55)/\s.2.1.seq<=257*(55-s.2.2.2)/\(s.2.2.1.nodes.length:Int)<=55-s.2.2.2) _ (λs=>s.2.2.2.toNat) ⟨h6.2,⟨_,newH_inv hc hk Oo⟩,rfl,rfl,hg0,by dsimp only;rw [Qd Oo];omega,by show (0:Int)<=_;dsimp only;rw [Qd Oo];omega,by dsimp only;rw [gn,Qd Oo];show (0:Int)<=_;omega⟩ ?_
 rintro ⟨dk,h,g,n⟩ ⟨i1,⟨BL,H⟩,i2,i3,i4,i5,i6,i7⟩
 dsimp only at i1 H i2 i3 i4 i5 i6 i7
 have fin:MadeOk c (h,g,dk):=⟨⟨BL,H⟩,i2,i3,by show h.seq<=20000;omega,i4,by show g.nodes.length<=60;omega,i1⟩
 &.ite (λk0=>?_) λk0=>.out fin
 have k0:0<n:=k0
 &.call rfl (.ite (λkl=>?_) λkl=>.out fin)
 &.bind (op_g i1 i4) λo ho=>?_
 &.call (do28_c H Oo ho.1) ?_
 have hw:w64 (n-1)=n-1:=Qd Oo
 &.ite (λke=>.go ⟨ho.2,⟨BL,H⟩,i2,i3,i4,by dsimp only;rw [hw];omega,by dsimp only;rw [hw];omega,by dsimp only;rw [hw];omega⟩ (by dsimp only;rw [hw];omega)) λke=>?_
 have ke:¬ (doR h o.1).2.err=18:=ke
 have hO:=(do_ok H Oo (o:=o.1)).resolve_left ke
 &.call (do29_c i4 _) ?_
 ð⟨g1,g2⟩:=doG_ok i4 Oo o.1
 have o1:=hO.hi
 &.go ⟨ho.2,hO.inv,hO.cfg.trans i2,hO.ded.trans i3,g1,by dsimp only;rw [hw];omega,by dsimp only;rw [hw];omega,by dsimp only;rw [hw];omega⟩ (by dsimp only;rw [hw];omega)
def pctB:Option (Nat×Int)->Bool
 | some (v,e)=>decide (e=0) && (QeY .gtr v 0 && (QeY .leq v 4607182418800017408 && !QeY .eql v 0))
 | none=>false
theorem pct_all:((List.range 100).all λn=>pctB (Zr ((n+1:Nat):Int)))=true:=by decide +kernel
structure ShrX(x:Nat):Prop where
 ok:Qd2 x
 ne:¬ QeY .eql x 0=true
theorem percent_c{p:Int}(hp:1<=p/\p<=100):∃ v,Zr p=some (v,0)/\ShrX v:=by
 obtain ⟨n,rfl⟩:∃ n:Nat,p=((n+1:Nat):Int):=⟨(p-1).toNat,Oo⟩
 have h:=WY.1 pct_all n (Wz.2 Oo)
 generalize Zr ((n+1:Nat):Int)=r at h
 match r,h with
 | some (v,e),h =>
  have h:(decide (e=0) && (QeY .gtr v 0 && (QeY .leq v 4607182418800017408 && !QeY .eql v 0)))=true:=h
  rw [W9,W9,W9] at h
  ð⟨h1,h2,h3,h4⟩:=h
  have h1:=of_decide_eq_true h1
  subst h1
  ~⟨v,rfl,.inr ⟨h2,h3⟩,λq=>by rw [q] at h4;cases h4⟩
 | none,h=>~absurd h Od
def nmB(i:Nat)(c:Int):Bool:=(decide (97<=c) && decide (c<=122)) || (!decide (i=0) && (decide (c=45) || (decide (48<=c) && decide (c<=57))))
def nmA(s:ByteArray):Bool:=(List.range s.size).all λi=>match sAt s (i:Int) with | some c=>nmB i c | none=>false
theorem named_c{s:ByteArray}(h:(decide (1<=s.size) && decide (s.size<=16) && nmA s)=true):Zz s=some true:=by
 simp only [W9,decide_eq_true_eq] at h
 ð⟨⟨h1,h2⟩,h3⟩:=h
 &Gd.eq ?_
 unfold Zz
 &Gd.bndR (P:=λz=>z = .inl ()) ?_ (λ_ hP=>.pos Oo (.some (decide_eq_true Oo))) (λr hP=>by cases hP)
 &Gd.for s.size (λ(_:Unit) i=>i) (λi _=>True) () rfl (λ_ _=>rfl) Oo trivial (λi hi t ht=>?_) (λt ht=>rfl)
 have h4:=WY.1 h3 i (Wz.2 hi)
 cases e:sAt s (i:Int) with
 | none=>rw [e] at h4;cases h4
 | some c =>
  rw [e] at h4
  unfold nmB at h4
  simp only [VK,W9,decide_eq_true_eq,Vy,decide_eq_false_iff_not] at h4
  have go:Gd (λa=>(∃ t':Unit,a=LS.go (β:=Unit ⊕ Bool) (w64 ((i:Int)+1))/\True)\/∃ o,a=LS.out o/\o = .inl ()) (some (LS.go (w64 ((i:Int)+1)))):=.some (.inl ⟨(),rfl,trivial⟩)
  &.bind (P:=λv=>v=c) ⟨c,rfl,rfl⟩ λv hv=>?_
  subst hv
  &.ite (λk1=>.ite (λk2=>go) λk2=>?_) λk1=>?_
  all_goals
   &.neg Oo (.ite (λk3=>go) λk3=>.neg Oo (.neg Oo go))
theorem names_ok:∀ s∈[(ByteArray.mk #[115,101,109,105,115,112,97,99,101]),(ByteArray.mk #[97,112,112,101,108]),(ByteArray.mk #[102,105,120,101,100]),(ByteArray.mk #[111,108,100,101,114,45,102,105,114,115,116]),(ByteArray.mk #[120,120]),(ByteArray.mk #[120,120,49,48,48]),(ByteArray.mk #[111,119,110])],(decide (1<=s.size) && decide (s.size<=16) && nmA s)=true:=by decide +kernel
structure RulI(n j:Nat)(r:Rul):Prop where
 shr:Qd2 r.share
 lim:0<=r.limit/\r.limit<=64
 bat:0<=r.batch/\r.batch<=64
 last:j+1=n->r.limit=0/\r.target=j
 next:j+1<n->r.target=j+1
def Qd5(x:Nat)(full:Int):Prop:=if QeY .eql x 0=true then 1<=full/\full<=64 else full=0
structure OwnI(n b:Nat)(rs:List Rul)(full:Int):Prop where
 len:rs.length=b
 rule:∀ j (h:j<rs.length),RulI n j rs[j]
 fl:b<n->full=0
 fin:b=n->∀ h:n-1<rs.length,Qd5 rs[n-1].share full
theorem OwnI.push{n b:Nat}{rs:List Rul}{full f':Int}(h:OwnI n b rs full){r:Rul}(hr:RulI n b r)(h1:b+1<n->f'=0)(h2:b+1=n->Qd5 r.share f'):OwnI n (b+1) (rs++[r]) f':=by
 have hl:=h.len
 &⟨by rw [We,WK,hl],λj hj=>?_,h1,λe hj=>?_⟩
 ·rw [We,WK] at hj
  by_cases k:j<rs.length
  ·rw [YG k];~h.rule j k
  ·have:j=rs.length:=by omega
   subst this
   rw [U0 (Wl _)]
   simp only [Ui,YR]
   rw [hl];~hr
 ·have:=h2 e
  have e2:n-1=rs.length:=by omega
  simp only [e2]
  rw [U0 (Wl _)]
  simp only [Ui,YR]
  ~this
theorem OwnI.cfg{n:Nat}{rs:List Rul}{full:Int}(h:OwnI n n rs full)(hn:1<=n/\n<=4){s:ByteArray}(hs:Zz s=some true):Qeg ⟨s,rs,full⟩:=by
 have hl:=h.len
 &⟨hs,by show 1<=rs.length/\rs.length<=4;omega,λb hb=>?_,λb h0 hb=>?_,λhb=>?_⟩
 ·have hb:b<rs.length:=hb
  have hr:=h.rule b hb
  &⟨hr.shr,hr.lim,hr.bat,λe=>hr.last (by have:b+1=rs.length:=e;omega),λe=>?_⟩
  have e:b+1<rs.length:=e
  have:=hr.next Oo
  show (b:Int)<rs[b].target/\rs[b].target<(rs.length:Int)
  omega
 ·have hb:b<rs.length:=hb
  &⟨b-1,by show b-1<rs.length;omega,by show b-1+1<rs.length;omega,?_⟩
  have:=(h.rule (b-1) Oo).next Oo
  show rs[b-1].target=(b:Int)
  omega
 ·have:=h.fin rfl Oo
  have e:rs.length-1=n-1:=by omega
  show Qd5 (rs[rs.length-1]'_).share full
  simp only [e]
  ~this
theorem f00:QeY .eql 0 0=true:=by decide +kernel
theorem full0{f:Int}(h:1<=f/\f<=64):Qd5 0 f:=by unfold Qd5;rw [if_pos f00];~h
theorem fullX{x:Nat}(h:ShrX x):Qd5 x 0:=by unfold Qd5;rw [if_neg h.ne]
theorem own0{n:Nat}(hn:1<=n):OwnI n 0 [] 0:=⟨rfl,λj h=>absurd h (WZ _),λ_=>rfl,λe=>by omega⟩
theorem shr0:Qd2 0:=.inl rfl
theorem J6{n j:Nat}{x:Nat}{l b t:Int}(hx:Qd2 x)(hl:0<=l/\l<=64)(hb:0<=b/\b<=64)(h1:j+1=n->l=0/\t=j)(h2:j+1<n->t=j+1):RulI n j ⟨x,l,b,t⟩:=⟨hx,hl,hb,h1,h2⟩
theorem one_cfg{x:Nat}{b f:Int}(hx:Qd2 x)(hb:0<=b/\b<=64)(hf:Qd5 x f):OwnI 1 1 [⟨x,0,b,0⟩] f :=
 (own0 (Wl 1)).push (r:=⟨x,0,b,0⟩) (J6 hx Oo hb (λ_=>⟨rfl,rfl⟩) λh=>by omega) (λh=>by omega) λ_=>hf
theorem two_cfg{x y:Nat}{l b b' f:Int}(hx:Qd2 x)(hy:Qd2 y)(hl:0<=l/\l<=64)(hb:0<=b/\b<=64)(hb':0<=b'/\b'<=64)(hf:Qd5 y f):OwnI 2 2 [⟨x,l,b,1⟩,⟨y,0,b',1⟩] f :=
 ((own0 Oo).push (r:=⟨x,l,b,1⟩) (f':=0) (J6 hx hl hb (λh=>by omega) λ_=>rfl) (λ_=>rfl) λh=>by omega).push (r:=⟨y,0,b',1⟩) (J6 hy Oo hb' (λ_=>⟨rfl,rfl⟩) λh=>by omega) (λh=>by omega) λ_=>hf
theorem three_cfg{x y z:Nat}{b b' b'' f:Int}(hx:Qd2 x)(hy:Qd2 y)(hz:Qd2 z)(hb:0<=b/\b<=64)(hb':0<=b'/\b'<=64)(hb'':0<=b''/\b''<=64)(hf:Qd5 z f):OwnI 3 3 [⟨x,0,b,1⟩,⟨y,0,b',2⟩,⟨z,0,b'',2⟩] f :=
 (((own0 Oo).push (r:=⟨x,0,b,1⟩) (f':=0) (J6 hx Oo hb (λh=>by omega) λ_=>rfl) (λ_=>rfl) λh=>by omega).push (r:=⟨y,0,b',2⟩) (f':=0) (J6 hy Oo hb' (λh=>by omega) λ_=>rfl) (λ_=>rfl) λh=>by omega).push (r:=⟨z,0,b'',2⟩) (J6 hz Oo hb'' (λ_=>⟨rfl,rfl⟩) λh=>by omega) (λh=>by omega) λ_=>hf
def nameL:List ByteArray:=[(ByteArray.mk #[115,101,109,105,115,112,97,99,101]),(ByteArray.mk #[97,112,112,101,108]),(ByteArray.mk #[102,105,120,101,100]),(ByteArray.mk #[111,108,100,101,114,45,102,105,114,115,116]),(ByteArray.mk #[120,120]),(ByteArray.mk #[120,120,49,48,48])]
def nameB(i j:Nat):Bool:=match nameL[i]?,nameL[j]? with | some s,some t=>(s.toList == t.toList) == decide (i=j) | _,_=>false
theorem names_ne:((List.range 6).all λi=>(List.range 6).all λj=>nameB i j)=true:=by decide +kernel
theorem name_e{i j:Nat}{s t:ByteArray}(hi:nameL[i]?=some s)(hj:nameL[j]?=some t)(hi6:i<6)(hj6:j<6):(s.toList == t.toList)=decide (i=j):=by
 have h:=WY.1 (WY.1 names_ne i (Wz.2 hi6)) j (Wz.2 hj6)
 unfold nameB at h
 rw [hi,hj] at h
 simpa using h
theorem get_c{i:Nat}(hi:i<6){s:ByteArray}(hs:nameL[i]?=some s){p:Int}(hp:1<=p/\p<=100):Gd (λr=>Qeg r.1) (Qa1 s p):=by
 ð⟨v,hv,hx⟩:=percent_c hp
 have hn:Zz s=some true:=named_c (names_ok s (by
  have:=Wp hs
  unfold nameL at this
  simp only [Wt,Vx,or_false] at this ⊢
  rcases this with h | h | h | h | h | h <;> simp [h]))
 have ne:∀ {j:Nat} {t:ByteArray},nameL[j]?=some t->j<6->i≠j->¬ (s.toList == t.toList)=true:=λ{j t} hj hj6 hij q=>by
  rw [name_e hs hj hi hj6] at q
  ~hij (of_decide_eq_true q)
 have eq:∀ {t:ByteArray},nameL[i]?=some t->(s.toList == t.toList)=true:=λ{t} hj=>by rw [name_e hs hj hi hi];~decide_eq_true rfl
 unfold Qa1
 &.call hv (.pos rfl ?_)
 have hpp:¬ p<1:=by omega
 have z:(0:Int)<=0/\(0:Int)<=64:=by omega
 have o:(0:Int)<=1/\(1:Int)<=64:=by omega
 have e8:Qd5 0 8:=full0 Oo
 rcases i with _ | _ | _ | _ | _ | _ | i
 ·~.pos (eq rfl) (.neg hpp (.some ((one_cfg shr0 z (full0 Oo)).cfg Oo hn)))
 ·~.neg (ne (j:=0) rfl Oo Oo) (.pos (eq rfl) (.neg hpp (.some ((two_cfg shr0 shr0 z z z e8).cfg Oo hn))))
 ·~.neg (ne (j:=0) rfl Oo Oo) (.neg (ne (j:=1) rfl Oo Oo) (.pos (eq rfl) (.neg hpp (.some ((two_cfg hx.ok shr0 o z z e8).cfg Oo hn)))))
 ·~.neg (ne (j:=0) rfl Oo Oo) (.neg (ne (j:=1) rfl Oo Oo) (.neg (ne (j:=2) rfl Oo Oo) (.pos (eq rfl) (.neg hpp (.some ((one_cfg hx.ok o (fullX hx)).cfg Oo hn))))))
 ·~.neg (ne (j:=0) rfl Oo Oo) (.neg (ne (j:=1) rfl Oo Oo) (.neg (ne (j:=2) rfl Oo Oo) (.neg (ne (j:=3) rfl Oo Oo) (.pos (eq rfl) (.neg hpp (.some ((two_cfg hx.ok hx.ok z o o (fullX hx)).cfg Oo hn)))))))
 ·~.neg (ne (j:=0) rfl Oo Oo) (.neg (ne (j:=1) rfl Oo Oo) (.neg (ne (j:=2) rfl Oo Oo) (.neg (ne (j:=3) rfl Oo Oo) (.neg (ne (j:=4) rfl Oo Oo) (.pos (eq rfl) (.neg hpp (.some ((three_cfg hx.ok hx.ok shr0 o o z e8).cfg Oo hn))))))))
 ·omega
theorem Qeg.more{c:Cfg}(h:Qeg c)(h0:0<c.full){f:Int}(hf:1<=f/\f<=64):Qeg ⟨c.name,c.rules,f⟩:=by
 &⟨h.name,h.len,h.rule,h.aim,λhl=>?_⟩
 have:=h.full hl
 split at this
 ·rename_i e
  show if _ then _ else _
  rw [if_pos e];~hf
 ·omega
theorem shares_ok:∀ x∈[4602678819172646912,4593671619917905920,4607182418800017408,4599676419421066581,4562254508917369340],(QeY .gtr x 0 && QeY .leq x 4607182418800017408)=true:=by decide +kernel
theorem share_g{d:Qc}(hd:Jg d):Gd (λr=>Qd2 r.1/\Jg r.2) (Qau d):=by
 unfold Qau
 &.bind (Zg hd Oo) λr1 h1=>.ite (λ_=>?_) λ_=>?_
 ·&.bind (Zg h1.2 Oo) λr2 h2=>?_
  have k2:=h2.1
  have hl:r2.1.toNat<([4602678819172646912,4593671619917905920,4607182418800017408,4599676419421066581,4562254508917369340]:List Nat).length:=by simp only [WX,VH];omega
  &.at k2.1 hl (.some ⟨?_,h2.2⟩)
  have:=shares_ok _ (Wc hl)
  rw [W9] at this
  ~.inr this
 ·&.bind (Zg h1.2 Oo) λr2 h2=>?_
  have k2:=h2.1
  rw [Qd Oo]
  ð⟨v,hv,hx⟩:=percent_c (p:=1+r2.1) Oo
  ~.call hv (.some ⟨hx.ok,h2.2⟩)
def OwnS(n:Nat)(s:Qc×List Rul×Int×Int):Prop:=Jg s.1/\∃ b:Nat,s.2.2.2=(b:Int)/\b<=n/\OwnI n b s.2.1 s.2.2.1
def OwnQ(n:Nat)(b:Qc×List Rul×Int):Prop:=Jg b.1/\OwnI n n b.2.1 b.2.2
theorem QfV{n b:Nat}{d:Qc}{rs:List Rul}{f f':Int}{r:Rul}{m:Nat}(hn:n<=4)(hb:b<n)(h:OwnI n b rs f)(hd:Jg d)(hr:RulI n b r)(h1:b+1<n->f'=0)(h2:b+1=n->Qd5 r.share f')(hm:n-b=m) :
  Gd (LSP (OwnS n) (OwnQ n) (λs=>n-s.2.2.2.toNat) m) (if ((rs.length:Int)+([r]:List Rul).length)*32<=140737488355328/\(rs.length:Int)+([r]:List Rul).length<=9223372036854775807 then some (LS.go (d,rs++[r],f',w64 ((b:Int)+1))) else none):=by
 have hl:=h.len
 have e:w64 ((b:Int)+1)=((b+1:Nat):Int):=by rw [Qd Oo];push_cast;rfl
 rw [e]
 &.pos (by rw [WK];omega) (.go ⟨hd,b+1,rfl,Oo,h.push hr h1 h2⟩ ?_)
 show n-(((b+1:Nat):Int)).toNat<m
 rw [Wd]
 omega
set_option maxHeartbeats 1000000 in
theorem config_g{d:Qc}(hd:Jg d):Gd (λr=>Qeg r.1/\Jg r.2) (JX d):=by
 unfold JX
 &.bind (Zg hd Oo) λr2 h2=>.ite (λ_=>?_) λ_=>?_
 ·&.call (show QaN=some nameL from rfl) (.bind (Zg h2.2 Oo) λr5 h5=>?_)
  have k5:=h5.1
  have hl:r5.1.toNat<nameL.length:=by show r5.1.toNat<6;omega
  &.at k5.1 hl (.bind (Zg h5.2 Oo) λr7 h7=>.bind (Zg h7.2 Oo) λr8 h8=>?_)
  have k7:=h7.1
  have k8:=h8.1
  rw [Qd (n:=1+r7.1) Oo]
  have hl2:r8.1.toNat<([10,15,25,30,50,1+r7.1]:List Int).length:=by simp only [WX,VH];omega
  &.at k8.1 hl2 ?_
  have hp:1<=([10,15,25,30,50,1+r7.1]:List Int)[r8.1.toNat]/\([10,15,25,30,50,1+r7.1]:List Int)[r8.1.toNat]<=100:=by
   have hm:=Wc hl2
   generalize ([10,15,25,30,50,1+r7.1]:List Int)[r8.1.toNat]=y at hm
   simp only [Wt,Vx,or_false] at hm
   omega
  &.bind (get_c (i:=r5.1.toNat) Oo (Wa hl) hp) λr10 h10=>.ite (λhf=>?_) λ_=>.some ⟨h10,h8.2⟩
  &.bind (Zg h8.2 Oo) λr13 h13=>.some ⟨?_,h13.2⟩
  have k13:=h13.1
  rw [Qd Oo]
  ~h10.more hf Oo
 ·&.bind (Zg h2.2 Oo) λr14 h14=>?_
  have k14:=h14.1
  rw [Qd (n:=1+r14.1) Oo]
  obtain ⟨n,en⟩:∃ n:Nat,1+r14.1=(n:Int):=⟨(1+r14.1).toNat,Oo⟩
  rw [en]
  have hn1:1<=n:=by omega
  have hn4:n<=4:=by omega
  rw [Qd (n:=(n:Int)-1) Oo]
  &Gd.bind (P:=OwnQ n) ?_ λb hb=>.some ⟨hb.2.cfg ⟨hn1,hn4⟩ (named_c (names_ok _ Os)),hb.1⟩
  &Gd.loop (OwnS n) (OwnQ n) (λs=>n-s.2.2.2.toNat) ⟨h14.2,0,rfl,Oo,own0 hn1⟩ ?_
  rintro ⟨d,rs,f,i⟩ ⟨hd,b,eb,hbn,hI⟩
  dsimp only at hd eb hI ⊢
  subst eb
  &.ite (λhb=>?_) λhb=>.out ⟨hd,?_⟩
  ·have hb:b<n:=by omega
   have hf0:=hI.fl hb
   have hm:n-b=n-((b:Nat):Int).toNat:=by rw [Wd]
   have ew:w64 ((b:Int)+1)=((b+1:Nat):Int):=by rw [Qd Oo];push_cast;rfl
   &.bind (Zg hd Oo) λr24 h24=>.bind (Zg h24.2 Oo) λr26 h26=>?_
   have k24:=h24.1
   &.ite (λ_=>?_) λ_=>?_
   ·&.bind (share_g h26.2) λr28 h28=>.ite (λhlt=>?_) λhlt=>?_
    ·have hlt:(b:Int)<(n:Int)-1:=hlt
     &.bind (Zg h28.2 Oo) λr31 h31=>.ite (λ_=>?_) λ_=>?_
     ·&.bind (Zg h31.2 Oo) λr33 h33=>.neg Oo ?_
      have k33:=h33.1
      &QfV hn4 hb hI h33.2 ?_ (λ_=>hf0) (λh=>by omega) hm
      ~J6 h28.1 (by rw [Qd Oo];omega) Oo (λh=>by omega) λ_=>by rw [ew];push_cast;rfl
     ·&.neg Oo (QfV hn4 hb hI h31.2 ?_ (λ_=>hf0) (λh=>by omega) hm)
      ~J6 h28.1 Oo Oo (λh=>by omega) λ_=>by rw [ew];push_cast;rfl
    ·have hlt:¬ (b:Int)<(n:Int)-1:=hlt
     &.pos Oo (.ite (λhz=>?_) λhz=>?_)
     ·&.bind (Zg h28.2 Oo) λr51 h51=>?_
      have k51:=h51.1
      &QfV hn4 hb hI h51.2 (J6 h28.1 Oo Oo (λ_=>⟨rfl,rfl⟩) λh=>by omega) (λh=>by omega) (λ_=>?_) hm
      rw [Qd Oo]
      unfold Qd5
      rw [if_pos hz];omega
     ·&QfV hn4 hb hI h28.2 (J6 h28.1 Oo Oo (λ_=>⟨rfl,rfl⟩) λh=>by omega) (λh=>by omega) (λ_=>?_) hm
      unfold Qd5
      rw [if_neg hz];~hf0
   ·&.ite (λhlt=>?_) λhlt=>?_
    ·have hlt:(b:Int)<(n:Int)-1:=hlt
     &.bind (Zg h26.2 Oo) λr31 h31=>.ite (λ_=>?_) λ_=>?_
     ·&.bind (Zg h31.2 Oo) λr33 h33=>.neg Oo ?_
      have k33:=h33.1
      &QfV hn4 hb hI h33.2 ?_ (λ_=>hf0) (λh=>by omega) hm
      ~J6 shr0 (by rw [Qd Oo];omega) Oo (λh=>by omega) λ_=>by rw [ew];push_cast;rfl
     ·&.neg Oo (QfV hn4 hb hI h31.2 ?_ (λ_=>hf0) (λh=>by omega) hm)
      ~J6 shr0 Oo Oo (λh=>by omega) λ_=>by rw [ew];push_cast;rfl
    ·have hlt:¬ (b:Int)<(n:Int)-1:=hlt
     &.pos Oo ?_
     &.bind (Zg h26.2 Oo) λr51 h51=>?_
     have k51:=h51.1
     &QfV hn4 hb hI h51.2 (J6 shr0 Oo Oo (λ_=>⟨rfl,rfl⟩) λh=>by omega) (λh=>by omega) (λ_=>full0 ?_) hm
     rw [Qd Oo];omega
  ·have hb:¬ (b:Int)<n:=hb
   have:b=n:=by omega
   subst this
   ~hI
theorem heap_g{d:Qc}(hd:Jg d):Gd (λr=>∃ c,MadeOk c r) (Qa3 d):=by
 unfold Qa3
 &.bind (config_g hd) λr1 h1=>.bind (heapOf_g h1.1 h1.2) λr2 h2=>.some ⟨_,h2⟩
theorem srt_le(l:List Int):(QeR l).Pairwise (·<=·):=by
 have:=List.pairwise_mergeSort (le:=λx y:Int=>decide (x<=y)) (λa b c h1 h2=>by simp at h1 h2 ⊢;omega) (λa b=>by simp;omega) l
 ~this.imp λh=>by simpa using h
theorem srt_mem{l:List Int}{x:Int}:x∈QeR l<->x∈l:=List.mem_mergeSort
theorem srt_len(l:List Int):(QeR l).length=l.length:=List.length_mergeSort l
def Bmp(arr t:List Int)(F:List Nat):Prop:=t.length=arr.length/\∀ f v,arr[f]?=some v->t[f]?=some (if f∈F then v+1 else v)
theorem Bmp.nil(arr:List Int):Bmp arr arr []:=⟨rfl,λf v h=>by simpa using h⟩
theorem Bmp.push{arr t:List Int}{F:List Nat}(h:Bmp arr t F){f:Nat}{v:Int}(hf:f∉F)(hv:arr[f]?=some v):t[f]?=some v/\Bmp arr (t.set f (v+1)) (F++[f]):=by
 have h1:=h.2 f v hv
 rw [if_neg hf] at h1
 ð⟨hl,_⟩:=Wq.1 h1
 &⟨h1,by rw [Wv];~h.1,λg w hg=>?_⟩
 by_cases e:g=f
 ·subst e
  rw [hv] at hg
  injection hg with hg
  subst hg
  rw [WD hl,if_pos (Wj _ (Wo.2 rfl))]
 ·rw [WC (λk=>e k.symm),h.2 g w hg]
  simp [e]
def Mrk(G:Itm->List Nat)(L:List Itm)(n:Nat)(arr:List Int):Prop:=arr.length=n/\∀ f,f<n->((∃ x∈L,f∈G x)->arr[f]?=some 1)/\((¬ ∃ x∈L,f∈G x)->arr[f]?=some 0)
theorem Mrk.step{G:Itm->List Nat}{L:List Itm}{n:Nat}{arr arr':List Int}(h:Mrk G L n arr){x:Itm}(hd:∀ f∈G x,∀ y∈L,f∉G y)(hb:Bmp arr arr' (G x)):Mrk G (L++[x]) n arr':=by
 &⟨hb.1.trans h.1,λf hf=>⟨λ⟨y,hy,hfy⟩=>?_,λhn=>?_⟩⟩
 ·by_cases hx:f∈G x
  ·have:=hb.2 f 0 ((h.2 f hf).2 λ⟨z,hz,hfz⟩=>hd f hx z hz hfz)
   rw [if_pos hx] at this
   ~this
  ·rcases Wn.1 hy with hy | hy
   ·have:=hb.2 f 1 ((h.2 f hf).1 ⟨y,hy,hfy⟩)
    rw [if_neg hx] at this
    ~this
   ·rw [Wo.1 hy] at hfy
    ~absurd hfy hx
 ·have hx:f∉G x:=λq=>hn ⟨x,Wj _ (Wo.2 rfl),q⟩
  have:=hb.2 f 0 ((h.2 f hf).2 λ⟨z,hz,hfz⟩=>hn ⟨z,Wf _ hz,hfz⟩)
  rw [if_neg hx] at this
  ~this
theorem Mrk.val{G:Itm->List Nat}{L:List Itm}{n:Nat}{arr:List Int}(h:Mrk G L n arr){f:Nat}(hf:f<n):∃ v,arr[f]?=some v/\0<=v/\v<=1:=by
 by_cases k:∃ x∈L,f∈G x
 ·~⟨1,(h.2 f hf).1 k,Oo,Oo⟩
 ·~⟨0,(h.2 f hf).2 k,Oo,Oo⟩
theorem Mrk.zero(G:Itm->List Nat)(n:Nat):Mrk G [] n (List.replicate n 0):=⟨Ve,λf hf=>⟨λ⟨x,hx,_⟩=>(by cases hx),λ_=>by rw [VR,if_pos hf]⟩⟩
section
variable{h:Hp}{BL:List (List Itm)}
theorem mem_cf1(H:QG h BL){x:Itm}(hx:x∈BL.flatten){k:Nat}:k∈cfr h.space.fs [x.i]<->k∈x.fr:=by
 have hX:=(H.sp.each x hx).inc.toIncC
 rw [Qf1,Qf7]
 constructor
 ·rintro ⟨hk,e⟩
  ~(hX.ow k hk).1 (by simpa using e)
 ·intro hk
  ~⟨hX.ch.lt k hk,by simp [(hX.ow k (hX.ch.lt k hk)).2 hk]⟩
theorem fr_sep(H:QG h BL){x y:Itm}(hx:x∈BL.flatten)(hy:y∈BL.flatten){k:Nat}(h1:k∈x.fr)(h2:k∈y.fr):x=y:=by
 have hX:=(H.sp.each x hx).inc.toIncC
 have hY:=(H.sp.each y hy).inc.toIncC
 have hk:=hX.ch.lt k h1
 ~H.uniq hx hy (((hX.ow k hk).2 h1).symm.trans ((hY.ow k hk).2 h2))
theorem hd1(H:QG h BL){x:Itm}(hx:x∈BL.flatten){i:Nat}:i∈QaS h.space h.roots [x.i]<->i∈Zv h.roots/\X7 h.space (QD h.roots i-1)∈x.fr:=by
 unfold QaS
 rw [WI,QE]
 &⟨λ⟨h1,h2⟩=>⟨h1,(mem_cf1 H hx).1 (Qf1.2 h2.2)⟩,λ⟨h1,h2⟩=>⟨h1,?_,Qf1.1 ((mem_cf1 H hx).2 h2)⟩⟩
 ð⟨y,p,r,d,X⟩:=root_x H h1
 have:=X.lt
 have e:=X.e
 omega
theorem new_deck{l:List Int}(h:∀ x∈l,I64 x)(hl:l.length<=9223372036854775807):∃ d,Qc5 l=some d/\Jg d:=⟨⟨l,0⟩,rfl,h,by show (0:Int)<=0;omega,hl⟩
end
section
variable{h:Hp}{BL:List (List Itm)}
def SlotX(s:Sp)(x:Itm)(q:Int):Prop:=∃ p r d,(p,r,d)∈obs 0 x.os/\∃ k,1<=k/\k<=r/\q=((adr (szS s) x.fr (p+k):Nat):Int)
theorem QdN(H:QG h BL){x:Itm}(hx:x∈BL.flatten){q:Int}(hq:SlotX h.space x q):0<=q/\q<h.space.ws.length/\X7 h.space q∈x.fr:=by
 ð⟨p,r,d,hp,k,k1,k2,rfl⟩:=hq
 have:=Z2 H.sp.ok (H.sp.each x hx) hp (k:=k) Oo (q:=((adr (szS h.space) x.fr (p+k):Nat):Int)) Oo Oo
 ~⟨Oo,this.2,this.1⟩
theorem fld_mem(H:QG h BL){x:Itm}(hx:x∈BL.flatten){q:Int}:(∃ a∈Qdx h.space x,q∈(Qb7 h.space a).1)<->SlotX h.space x q:=by
 have hX:=H.sp.each x hx
 have key:∀ p r d,(p,r,d)∈obs 0 x.os->(Qb7 h.space ((adr (szS h.space) x.fr p:Nat):Int)).1=(List.range r).map λj=>((adr (szS h.space) x.fr (p+(j+1)):Nat):Int):=λp r d hp=>by
  have b:=Itm.posOk H.sp.ok hX hp
  have hlk:=(Qdo H.sp.ok hX.inc.ch hX.inc.own (p:=p) (r:=r) (d:=d) b.1 b.2.1 b.2.2.1 b.2.2.2).1
  unfold Qb7
  rw [hlk,if_pos rfl]
  dsimp only
  unfold fldL
  rw [Wd]
  &WW λj hj=>?_
  rw [Wz] at hj
  have:=go_adr H.sp.ok.shp hX.inc.ch hX.inc.own (p:=p) (k:=j+1) Oo
  rw [show (1+(j:Int))=((j+1:Nat):Int) by omega,this,if_pos Oo]
 constructor
 ·rintro ⟨a,ha,hq⟩
  unfold Qdx at ha
  ð⟨⟨p,r,d⟩,ho,rfl⟩:=Wk.1 ha
  rw [key p r d ho] at hq
  ð⟨j,hj,rfl⟩:=Wk.1 hq
  rw [Wz] at hj
  ~⟨p,r,d,ho,j+1,Oo,Oo,rfl⟩
 ·rintro ⟨p,r,d,hp,k,k1,k2,rfl⟩
  &⟨((adr (szS h.space) x.fr p:Nat):Int),W0 (f:=λ(o:Nat×Nat×Nat)=>((adr (szS h.space) x.fr o.1:Nat):Int)) hp,?_⟩
  rw [key p r d hp]
  ~Wk.2 ⟨k-1,by rw [Wz];omega,by rw [show p+(k-1+1)=p+k by omega]⟩
def Mk(s:Sp)(l:List Inc)(D:Int->Prop)(t:List Bool):Prop:=t.length=s.ws.length/\∀ q:Nat,q<s.ws.length->t[q]?=some (bP (D (q:Int)/\QdJ s l (wAt s (q:Int))))
theorem Mk.set{s:Sp}{l:List Inc}{D D':Int->Prop}{t:List Bool}(hm:Mk s l D t){q:Int}(h0:0<=q)(hq:q<s.ws.length)(hD:∀ z,D' z<->D z\/z=q):Mk s l D' (t.set q.toNat (bP (QdJ s l (wAt s q)))):=by
 &⟨by rw [Wv];~hm.1,λz hz=>?_⟩
 by_cases e:z=q.toNat
 ·subst e
  rw [WD (by rw [hm.1];~hz),show ((q.toNat:Nat):Int)=q by omega]
  congr 1
  ~QdW ⟨λk=>⟨(hD q).2 (.inr rfl),k⟩,λk=>k.2⟩
 ·rw [WC (λk=>e k.symm),hm.2 z hz]
  congr 1
  &QdW (and_congr_left λ_=>?_)
  rw [hD]
  ~⟨.inl,λk=>k.elim id λk=>absurd Oo e⟩
end
def posL:Nat->List (Nat×Nat)->List Nat
 | _,[]=>[]
 | p,(r,d) :: l=>(List.range r).map (λj=>p+(j+1))++posL (p+1+r+d) l
theorem posL_gt:∀ {l:List (Nat×Nat)} {p q:Nat},q∈posL p l->p<q
 | (r,d) :: l,p,q,h=>by
  unfold posL at h
  rcases Wn.1 h with h | h
  ·ð⟨j,_,rfl⟩:=Wk.1 h
   omega
  ·have:=posL_gt h
   omega
theorem posL_pw:∀ (l:List (Nat×Nat)) (p:Nat),(posL p l).Pairwise (· < ·)
 | [],p=>Yj
 | (r,d) :: l,p=>by
  unfold posL
  rw [W5]
  &⟨?_,posL_pw l _,λa ha b hb=>?_⟩
  ·rw [Vc]
   ~List.pairwise_lt_range.imp λk=>by omega
  ·ð⟨j,hj,rfl⟩:=Wk.1 ha
   rw [Wz] at hj
   have:=posL_gt hb
   omega
theorem posL_in:∀ {l:List (Nat×Nat)} {p q:Nat},q∈posL p l->∃ P r d,(P,r,d)∈obs p l/\∃ k,1<=k/\k<=r/\q=P+k
 | (r,d) :: l,p,q,h=>by
  unfold posL at h
  rcases Wn.1 h with h | h
  ·ð⟨j,hj,rfl⟩:=Wk.1 h
   rw [Wz] at hj
   ~⟨p,r,d,WA ..,j+1,Oo,Oo,rfl⟩
  ·ð⟨P,r',d',h1,h2⟩:=posL_in h
   ~⟨P,r',d',Wm _ h1,h2⟩
theorem posL_map(f:Nat->Int):∀ (l:List (Nat×Nat)) (p:Nat),((obs p l).flatMap λo=>(List.range o.2.1).map λj=>f (o.1+(j+1)))=(posL p l).map f
 | [],p=>rfl
 | (r,d) :: l,p=>by
  unfold posL obs
  rw [VJ,WH,W3,posL_map f l]
  rfl
noncomputable def slsX(s:Sp)(x:Itm):List Int:=(Qdx s x).flatMap λa=>(Qb7 s a).1
variable{h:Hp}{BL:List (List Itm)}
theorem slsX_eq(H:QG h BL){x:Itm}(hx:x∈BL.flatten):slsX h.space x=(posL 0 x.os).map λq=>((adr (szS h.space) x.fr q:Nat):Int):=by
 have hX:=H.sp.each x hx
 rw [<- posL_map]
 unfold slsX Qdx
 rw [List.flatMap_map]
 have:∀ (L:List (Nat×Nat×Nat)),(∀ o∈L,o∈obs 0 x.os)->(L.flatMap λo=>(Qb7 h.space ((adr (szS h.space) x.fr o.1:Nat):Int)).1)=L.flatMap λo=>(List.range o.2.1).map λj=>((adr (szS h.space) x.fr (o.1+(j+1)):Nat):Int):=by
  intro L hL
  induction L with
  | nil=>rfl
  | cons o L ih =>
   rw [VJ,VJ,ih λo ho=>hL o (Wm _ ho)]
   congr 1
   have hp:(o.1,o.2.1,o.2.2)∈obs 0 x.os:=hL o (WA ..)
   have b:=Itm.posOk H.sp.ok hX hp
   have hlk:=(Qdo H.sp.ok hX.inc.ch hX.inc.own (p:=o.1) (r:=o.2.1) (d:=o.2.2) b.1 b.2.1 b.2.2.1 b.2.2.2).1
   unfold Qb7
   rw [hlk,if_pos rfl]
   dsimp only
   unfold fldL
   rw [Wd]
   &WW λj hj=>?_
   rw [Wz] at hj
   have hg:=go_k (s:=h.space) (k:=j+1) (p:=o.1) H.sp.ok.shp hX.inc.ch hX.inc.own Oo
   rw [show (1:Int)+(j:Int)=((j+1:Nat):Int) by push_cast;omega,hg]
 ~this _ λo ho=>ho
theorem slsX_nodup(H:QG h BL){x:Itm}(hx:x∈BL.flatten):(slsX h.space x).Nodup:=by
 have hX:=H.sp.each x hx
 rw [slsX_eq H hx,List.Nodup,Vc]
 &YH (λ{a b} ha hb hab e=>?_) (posL_pw x.os 0)
 ð⟨P,r,d,h1,k,h2,h3,rfl⟩:=posL_in ha
 ð⟨P',r',d',h1',k',h2',h3',rfl⟩:=posL_in hb
 have b1:=Itm.posOk H.sp.ok hX h1
 have b2:=Itm.posOk H.sp.ok hX h1'
 have hz:0<szS h.space:=by have:=H.sp.ok.shp.z;omega
 have:=Qbr hz hX.inc.nd (p:=P+k) (q:=P'+k') Oo Oo (by exact_mod_cast e)
 omega
theorem Qff(H:QG h BL){x:Itm}(hx:x∈BL.flatten){q:Int}:q∈slsX h.space x<->SlotX h.space x q:=by
 rw [<- fld_mem H hx]
 unfold slsX
 rw [Up]
noncomputable def slsB(s:Sp)(L:List Itm):List Int:=L.flatMap (slsX s)
theorem slsB_nodup(H:QG h BL):(slsB h.space BL.flatten).Nodup:=by
 unfold slsB
 rw [List.Nodup,Y3]
 &⟨λx hx=>slsX_nodup H hx,?_⟩
 &YH (λ{x y} hx hy hxy=>?_) H.order
 intro a ha b hb e
 subst e
 have h1:=QdN H hx ((Qff H hx).1 ha)
 have h2:=QdN H hy ((Qff H hy).1 hb)
 have:=fr_sep H hx hy h1.2.2 h2.2.2
 subst this
 omega
theorem slsB_mem(H:QG h BL){q:Int}:q∈slsB h.space BL.flatten<->∃ x∈BL.flatten,SlotX h.space x q:=by
 unfold slsB
 rw [Up]
 constructor
 ·rintro ⟨x,hx,k⟩
  ~⟨x,hx,(Qff H hx).1 k⟩
 ·rintro ⟨x,hx,k⟩
  ~⟨x,hx,(Qff H hx).2 k⟩
theorem clist_c{s:Sp}(hs:ZL s)(hW:SpW s){F:Int}{m:Nat}(h:IsLen s F m):XU s F=some (if ownF s.fs F = -1 then ([],5) else (itL s F m,0)):=by
 ð⟨h1,h2,h3,h4⟩:=h
 have h64:=hs.shp.hi
 have hF:0<=F/\F<s.fs.length:=h4 0 Oo
 have hin:Qah s F=some true:=by
  unfold Qah
  rw [if_pos hF.1]
  congr 1
  ~decide_eq_true hF.2
 have hfree:Z0 s F=some (decide (ownF s.fs F = -1)):=by
  obtain ⟨n,rfl⟩:∃ n:Nat,F=n:=⟨F.toNat,Oo⟩
  &Gd.eq ?_
  unfold Z0
  &.atN Oo (.some ?_)
  rw [ownF_at Oo]
 &Gd.eq ?_
 unfold XU
 &.call (QfI s hW) (.pos (J5 hs) (.call hin (.pos rfl (.call hfree ?_))))
 &.ite (λk=>.some (by rw [if_pos (of_decide_eq_true k)])) λk=>?_
 rw [if_neg λq=>k (decide_eq_true q)]
 &Gd.bind (P:=λb=>b=itL s F m) ?_ λb hb=>.some (by rw [hb])
 &Gd.loop (λx:List Int×Int=>∃ k:Nat,x=(itL s F k,itF s.fs k F)/\k<=m) _ (λx=>m-x.1.length) ⟨0,rfl,WT _⟩ ?_
 rintro x ⟨k,rfl,hk⟩
 dsimp only
 have hkm:0<=itF s.fs k F<->k<m:=by
  constructor
  ·intro h
   rcases Ws k m with h' | h'
   ·~h'
   ·have:k=m:=by omega
    subst this
    omega
  ·intro h;~(h4 k h).1
 &.ite (λh=>?_) λh=>.out (by rw [show k=m by have:=mt hkm.2 h;omega])
 have hlt:=hkm.1 h
 have h5:=h4 k hlt
 rw [itL_len]
 simp only [WX,VH]
 &.pos ⟨Oo,Oo⟩ ?_
 &.at h5.1 Oo ?_
 &.go ⟨k+1,?_,hlt⟩ (by dsimp only;rw [We,itL_len];simp only [WX,VH];omega)
 rw [itF_succ,nxF_z h5.1 Oo]
 &Prod.ext ?_ rfl
 show itL s F k++[itF s.fs k F]=itL s F (k+1)
 unfold itL
 rw [Ua,WH]
 rfl
theorem clist_no{s:Sp}(hs:ZL s)(hW:SpW s){F:Int}(h:¬ (0<=F/\F<s.fs.length)):XU s F=some ([],2):=by
 &Gd.eq ?_
 unfold XU
 &.call (QfI s hW) (.pos (J5 hs) ?_)
 have hin:Qah s F=some false:=by
  unfold Qah
  by_cases h0:0<=F
  ·rw [if_pos h0]
   congr 1
   ~decide_eq_false λk=>h ⟨h0,k⟩
  ·rw [if_neg h0]
 ~.call hin (.neg Od (.some rfl))
theorem bfr_c{s:Sp}(hs:Qco s.sh){i:Inc}(hi:I64 i.words):J0 s i=some (clN s i.words):=by
 &Gd.eq ?_
 unfold J0
 ~.call (show Qca i.words s.sh=_ from frames_c hs hi) (.some rfl)
theorem bowns_c{s:Sp}(hs:s.fs.length<=64)(q:Int):Qa4 s q=some ((cnO s.fs q s.fs.length:Nat):Int):=by
 &Gd.eq ?_
 unfold Qa4
 &Gd.bind (P:=λb=>b=((cnO s.fs q s.fs.length:Nat):Int)) ?_ λb hb=>.some (by rw [hb])
 &Gd.loop (λx:Int×Int=>∃ k:Nat,x=(((cnO s.fs q k:Nat):Int),(k:Int))/\k<=s.fs.length) _ (λx=>s.fs.length-x.2.toNat) ⟨0,rfl,WT _⟩ ?_
 rintro x ⟨k,rfl,hk⟩
 dsimp only
 have hck:=cnO_le s.fs q k
 &.ite (λhlt=>?_) λhlt=>.out (by rw [show k=s.fs.length by omega])
 have hlt:k<s.fs.length:=by omega
 have e1:w64 ((k:Int)+1)=((k+1:Nat):Int):=Qd Oo
 &.atN hlt ?_
 rw [e1]
 &.ite (λh4=>.go ⟨k+1,by rw [cnO_t hlt h4,Qd Oo];rfl,hlt⟩ (by dsimp only;omega)) λh4=>.go ⟨k+1,by rw [cnO_f hlt h4],hlt⟩ (by dsimp only;omega)
theorem bvalid_c{s:Sp}(hW:SpW s)(i:Inc):Qay s i=some (bP (ZL s/\FitP s i.seq i.belt i.first i.last i.words)):=by
 &Gd.eq ?_
 unfold Qay
 &.call (QfI s hW) (.ite (λh=>?_) λh=>.f λk=>h (J5 k.1))
 have hs:=QE.1 h
 have hh:=hs.shp.hi
 have hsm:=hs.shp.small
 &.ite (λh=>.f λk=>by have:=k.2.1;omega) λc1=>?_
 &.ite (λh=>.f λk=>by have:=k.2.1;omega) λc2=>?_
 &.ite (λh=>.f λk=>by have:=k.2.2.1;omega) λc3=>?_
 &.ite (λh=>.f λk=>by have:=k.2.2.1;omega) λc4=>?_
 &.ite (λh=>.f λk=>by have:=k.2.2.2.1;omega) λc5=>?_
 &.ite (λz=>?_) λz=>?_
 ·&.ite (λf1=>.b ?_) λf1=>.f λk=>f1 (k.2.2.2.2.1 z).1
  rw [decide_eq_true_iff]
  ~⟨λf2=>⟨hs,⟨Oo,Oo⟩,⟨Oo,Oo⟩,⟨Oo,Oo⟩,λ_=>⟨f1,f2⟩,λh=>absurd z h⟩,λk=>(k.2.2.2.2.1 z).2⟩
 by_cases hF:0<=i.first/\i.first<s.fs.length
 ·ð⟨m,hil⟩:=chain_len hs hF.1 hF.2
  have hil:IsLen s i.first m:=hil
  have hFl:i.first.toNat<s.fs.length:=by omega
  have hown:ownF s.fs i.first=(s.fs[i.first.toNat]'hFl).ow:=by
   unfold ownF
   rw [dif_pos ⟨hF.1,hFl⟩]
  &.call (clist_c hs hW hil) ?_
  by_cases hfr:ownF s.fs i.first = -1
  ·rw [if_pos hfr]
   &.neg Od (.f λk=>?_)
   ð⟨_,_,k'⟩:=k.2.2.2.2.2 z
   have:=k'.ow
   omega
  ·rw [if_neg hfr]
   &.pos rfl ?_
   dsimp only
   &.ite (λh=>.f λk=>by have:=k.2.2.2.1;omega) λc6=>?_
   have hm1:=hil.1
   have hm2:=hil.2.1
   rw [itL_len,Qd (n:=(m:Int)-1) Oo,show (m:Int)-1=((m-1:Nat):Int) by omega]
   &.atN (by rw [itL_len];omega) ?_
   have hla:∀ h,(itL s i.first m)[m-1]'h=itF s.fs (m-1) i.first:=λh=>by simp only [itL,Va,UH]
   rw [hla]
   &.ite (λe3=>?_) λe3=>.f λk=>by
    ð⟨j,h0,h1⟩:=k.2.2.2.2.2 z
    obtain rfl:=h0.uniq hil
    ~e3 h1.last
   &.call (bfr_c hs.shp.sh (by unfold I64;omega)) ?_
   &.ite (λe1=>?_) λe1=>.f λk=>by
    ð⟨j,h0,h1⟩:=k.2.2.2.2.2 z
    obtain rfl:=h0.uniq hil
    ~e1 h1.len
   &.call (bowns_c hh _) ?_
   &.ite (λe2=>?_) λe2=>.f λk=>by
    ð⟨j,h0,h1⟩:=k.2.2.2.2.2 z
    obtain rfl:=h0.uniq hil
    ~e2 (by have:=h1.cnt;omega)
   &.at hF.1 hFl ?_
   &.ite (λo1=>?_) λo1=>.f λk=>by ð⟨_,_,k⟩:=k.2.2.2.2.2 z;~o1 k.ow
   rw [Qd (n:=i.belt*4294967296) Oo,Qd (n:=i.belt*4294967296+i.seq) Oo]
   &.b ?_
   rw [decide_eq_true_iff]
   ~⟨λo2=>⟨hs,⟨Oo,Oo⟩,⟨Oo,Oo⟩,⟨Oo,Oo⟩,λh=>absurd h z,λ_=>⟨m,hil,⟨hF.1,hFl,o1,o2,e1,Oo,e3⟩⟩⟩,λk=>by
    ð⟨_,_,k⟩:=k.2.2.2.2.2 z
    ~k.st⟩
 ·&.call (clist_no hs hW hF) (.neg Od (.f λk=>?_))
  ð⟨_,_,k'⟩:=k.2.2.2.2.2 z
  have:=k'.lo
  have:=k'.hi
  ~hF ⟨Oo,Oo⟩
theorem base_c{s:Sp}(hs:Qc4 s){f:Int}(hf:0<=f/\f<s.fs.length):Qaw s f=some (f*szS s,0):=by
 ð⟨s1,s2,s3,s4,s5⟩:=QfM hs hf
 have hh:=hs.hi
 have hb:XS s=some true:=by
  unfold XS
  rw [shift_c,WQ,if_pos (J5 hs.sh)]
  congr 1
  ~decide_eq_true Oo
 unfold Qaw
 rw [hb,WQ,if_pos rfl,if_neg Oo,if_neg Oo,s1,if_pos s2,s3]
theorem obs_len:∀ (l:List (Nat×Nat)) (p:Nat),(obs p l).length=l.length
 | [],p=>rfl
 | (a,b) :: l,p=>by show (obs _ l).length+1=_;rw [obs_len l];rfl
theorem walk_c{s:Sp}(hs:ZL s)(hW:SpW s){x:Itm}(hx:QaC s x):Ja s x.i=some (Qdx s x,0):=by
 ð⟨g1,g2,g3,g4,g5⟩:=hs.shp.z
 have hw:=hs.shp.small
 have hroom:=hx.room hs.shp
 have hwd:=hx.inc.wd
 obtain ⟨n,hn⟩:∃ n:Nat,x.i.words=n:=⟨x.i.words.toNat,Oo⟩
 have hlay:=hx.lay
 rw [hn,Wd] at hlay hroom
 have he:QaV s x.i []=some (0,Qdx s x,Qdx s x):=by
  &Gd.eq ?_
  unfold QaV
  &.call (bvalid_c hW x.i) (.pos (J5 ⟨hs,hx.inc.fit hs⟩) ?_)
  &.ite (λh0=>.some ?_) λh0=>?_
  ·have:n=0:=by omega
   subst this
   have ho:x.os=[]:=by
    cases hos:x.os with
    | nil=>rfl
    | cons o l =>
     ð⟨r,d⟩:=o
     rw [hos] at hlay
     have:=hlay.2.2.2.le
     omega
   unfold Qdx
   rw [ho]
   rfl
  ·have hfr:0<x.fr.length:=by
    rcases Ud x.fr.length with h1 | h1
    ·rw [h1] at hroom;omega
    ·~h1
   ð⟨f1,f2,f3⟩:=first_adr hx.inc.toIncC hfr (szS s)
   &.call (base_c hs.shp ⟨f1,f2⟩) ?_
   rw [f3]
   &Gd.bndR (P:=λz=>z = .inl (Qdx s x)) ?_ (λb hP=>?_) (λr hP=>by cases hP)
   ·&Gd.loop (λst:List Int×Int=>∃ (o1 o2:List (Nat×Nat)) (p:Nat),x.os=o1++o2/\Lay (szS s) s.ws x.fr 0 o1 p/\Lay (szS s) s.ws x.fr p o2 n/\st=((obs 0 o1).map (λ(o:Nat×Nat×Nat)=>((adr (szS s) x.fr o.1:Nat):Int)),(p:Int))/\o1.length<=p) _ (λst=>n-st.2.toNat) ⟨[],x.os,0,rfl,rfl,hlay,rfl,Wl _⟩ ?_
    rintro st ⟨o1,o2,p,h1,h2,h3,rfl,h5⟩
    have hle:=h3.le
    dsimp only
    &.ite (λhp=>?_) λhp=>.out ?_
    ·have hp:p<n:=by omega
     cases o2 with
     | nil=>have h3:p=n:=h3;omega
     | cons o l =>
      ð⟨r,d⟩:=o
      ð⟨k1,k2,k3,k4⟩:=h3
      have hle2:=k4.le
      have hgo:=go_k (k:=p) hs.shp hx.inc.ch hx.inc.own (p:=0) Oo
      rw [WS] at hgo
      have hpl:=Jo hs.shp hx.inc.ch.lt (show p<x.fr.length*szS s by omega)
      have h0l:=Jo hs.shp hx.inc.ch.lt (show 0<x.fr.length*szS s by omega)
      have hst:ZF s ((adr (szS s) x.fr 0:Nat):Int) (p:Int)=some (((adr (szS s) x.fr p:Nat):Int),0):=by
       rw [step_c hs hW (by unfold I64;omega) (by unfold I64;omega),hgo]
      &.call hst (.pos rfl (.atN hpl ?_))
      have hwd2:s.ws[adr (szS s) x.fr p]'hpl=hdW r d:=by
       rw [Wa hpl] at k3
       ~VD k3
      rw [hwd2]
      have hu:U64 (hdW r d):=by unfold U64 hdW;omega
      &.call (hdec_c hu) ?_
      rw [DecR_hd (show Qd4 (r:Int) (d:Int) from ⟨Oo,Oo,Oo,Oo⟩)]
      &.pos rfl (.neg (by show ¬ false=true;decide) ?_)
      dsimp only
      rw [Qd (n:=x.i.words-(p:Int)) Oo,Qd (n:=1+(r:Int)) Oo,Qd (n:=1+(r:Int)+d) Oo]
      &.neg Oo ?_
      have hob:Z9 ((adr (szS s) x.fr p:Nat):Int) (1+(r:Int)+d) ((obs 0 o1).map (λ(o:Nat×Nat×Nat)=>((adr (szS s) x.fr o.1:Nat):Int)))=some (true,(obs 0 o1).map (λ(o:Nat×Nat×Nat)=>((adr (szS s) x.fr o.1:Nat):Int))++[((adr (szS s) x.fr p:Nat):Int)],(obs 0 o1).map (λ(o:Nat×Nat×Nat)=>((adr (szS s) x.fr o.1:Nat):Int))++[((adr (szS s) x.fr p:Nat):Int)]):=by
       unfold Z9
       rw [if_pos (by rw [Wb,obs_len,WK];omega)]
      &.call hob (.pos rfl ?_)
      dsimp only
      have e2:w64 ((p:Int)+(1+(r:Int)+d))=((p+1+r+d:Nat):Int):=by rw [Qd Oo];push_cast;omega
      rw [e2]
      &.go ⟨o1++[(r,d)],l,p+1+r+d,by rw [h1,WP];rfl,h2.snoc k1 k2 k3,k4,?_,by rw [We,WK];omega⟩ (by dsimp only;omega)
      rw [Qfj h2,WH]
      rfl
    ·have hpn:p=n:=by omega
     subst hpn
     cases o2 with
     | nil =>
      rw [Vl] at h1
      subst h1
      rfl
     | cons o l =>
      ð⟨r,d⟩:=o
      have:=h3.2.2.2.le
      omega
   ·injection hP with hP
    rw [hP]
    ~.some rfl
 &Gd.eq ?_
 unfold Ja
 ~.call he (.pos rfl (.some rfl))
theorem has_c{l:List Qe}(hl:Qo l)(hz:QcD l){f t:Int}(q:Int)(hf:0<=f/\f<64)(ht:0<=t/\t<64):Qam l f t q=some (bP (InS l f t q)):=by
 have h1:=hz.1
 have ef:Z3 l f t=some (((X4 l ⟨f,t,[]⟩:Nat):Int),bP (∃ h:X4 l ⟨f,t,[]⟩ < l.length,l[X4 l ⟨f,t,[]⟩].frm=f/\l[X4 l ⟨f,t,[]⟩].to=t)):=by
  unfold Z3
  rw [find_c hl Oo (t:=⟨f,t,[]⟩) ⟨hf.1,hf.2,ht.1,ht.2⟩]
  rfl
 &Gd.eq ?_
 unfold Qam
 &.call ef (.ite (λh=>?_) λh=>.f λk=>?_)
 ·ð⟨hp,e1,e2⟩:=QE.1 h
  have hm:=Wc hp
  have hok:=hl.1 _ hm
  have hs:=hz.2 _ hm
  &.atN hp (.call (bs_c hok.2.2.2.2 Oo q) (.b ?_))
  show bP _=true<->_
  rw [QE]
  constructor
  ·rintro ⟨h3,e3⟩
   ~⟨_,hm,e1,e2,e3▸Wc h3⟩
  ·rintro ⟨y,hy,k1,k2,k3⟩
   have:y=l[X4 l ⟨f,t,[]⟩]:=hl.uniq hy hm (k1.trans e1.symm) (k2.trans e2.symm)
   subst this
   ð⟨j,hj,e3⟩:=WN.1 k3
   have e4:Qbo l[X4 l ⟨f,t,[]⟩].slots q=j:=posI_of Oo (λi hi hij=>by rw [<- e3];~hok.2.2.2.2.lt hij hj) (λ_=>by rw [e3];omega)
   rw [e4]
   ~⟨hj,e3⟩
 ·ð⟨y,hy,k1,k2,k3⟩:=k
  ð⟨j,hj,e3⟩:=WN.1 hy
  &h (J5 ?_)
  have e4:X4 l ⟨f,t,[]⟩=j:=posK_of Oo (λi hi hij=>by
   have:=hl.lt hij hj
   unfold QT at this ⊢
   rw [e3,k1,k2] at this
   ~this) (λ_=>by rw [e3];unfold QT;dsimp only;omega)
  rw [e4]
  ~⟨hj,by rw [e3];~k1,by rw [e3];~k2⟩
theorem rhas_c{l:List Qe}(hz:QcD l)(f t q:Int):Qa0 l f t q=some (bP (InS l f t q)):=by
 have h1:=hz.1
 &Gd.eq ?_
 unfold Qa0
 &Gd.bndR (P:=λr=>(r = .inr true/\InS l f t q)\/(r = .inl ()/\¬ InS l f t q)) ?_ (λb hb=>.f ?_) (λr hr=>?_)
 ·&Gd.find l (λx=>x.frm=f/\x.to=t/\q∈x.slots) Oo (λi hi hno=>?_) (λhno=>.inr ⟨rfl,λ⟨x,hx,k⟩=>hno x hx k⟩)
  have hs:=hz.2 _ (Wc hi)
  &Gd.bndR (P:=λr=>(r = .inl ()/\¬ (l[i].frm=f/\l[i].to=t/\q∈l[i].slots))\/(r = .inr (.out (.inr true))/\(l[i].frm=f/\l[i].to=t/\q∈l[i].slots))) ?_ (λb hb=>?_) (λr hr=>?_)
  ·&.atN hi (.ite (λe1=>.ite (λe2=>?_) λe2=>.some (.inl ⟨rfl,λk=>e2 k.2.1⟩)) λe1=>.some (.inl ⟨rfl,λk=>e1 k.1⟩))
   &Gd.find l[i].slots (λy=>y=q) Oo (λj hj hno=>.atN hj (.ite (λe=>.some (.inr ⟨e,_,rfl,.inr ⟨rfl,e1,e2,e▸Wc hj⟩⟩)) λe=>.some (.inl ⟨e,rfl⟩))) (λhno=>.inl ⟨rfl,λk=>hno q k.2.2 rfl⟩)
  ·rcases hb with ⟨_,k⟩ | ⟨k,_⟩
   ·~.some (.inl ⟨k,rfl⟩)
   ·cases k
  ·rcases hr with ⟨k,_⟩ | ⟨k,k'⟩
   ·cases k
   ·injection k with k
    subst k
    ~.inr ⟨k',_,rfl,.inl ⟨rfl,_,Wc hi,k'⟩⟩
 ·rcases hb with ⟨k,_⟩ | ⟨_,k⟩
  ·cases k
  ·~k
 ·rcases hr with ⟨k,k'⟩ | ⟨k,_⟩
  ·injection k with k
   subst k
   ~(J5 k').symm
  ·cases k
def MisP(s:Sp)(l:List Qe)(q:Int):Prop:=QaL s q (wAt s q)/\¬ InS l (X7 s q:Int) (X7 s (wAt s q-1):Int) q
def MkP(n:Nat)(P D:Int->Prop)(t:List Bool):Prop:=t.length=n/\∀ q:Nat,q<n->t[q]?=some (bP (D (q:Int)/\P (q:Int)))
theorem MkP.iff{n:Nat}{P D D':Int->Prop}{t:List Bool}(hm:MkP n P D t)(hD:∀ z,D z<->D' z):MkP n P D' t:=⟨hm.1,λq hq=>by rw [hm.2 q hq];congr 1;~QdW (and_congr_left λ_=>hD _)⟩
theorem MkP.set{n:Nat}{P D:Int->Prop}{t:List Bool}(hm:MkP n P D t){q:Int}(h0:0<=q)(hq:q<n){b:Bool}(hb:b=bP (P q)):MkP n P (λz=>D z\/z=q) (t.set q.toNat b):=by
 subst hb
 &⟨by rw [Wv];~hm.1,λz hz=>?_⟩
 by_cases e:z=q.toNat
 ·subst e
  rw [WD (by rw [hm.1];~hz),show ((q.toNat:Nat):Int)=q by omega]
  congr 1
  ~QdW ⟨λk=>⟨.inr rfl,k⟩,λk=>k.2⟩
 ·rw [WC (λk=>e k.symm),hm.2 z hz]
  congr 1
  &QdW (and_congr_left λ_=>?_)
  ~⟨.inl,λk=>k.elim id λk=>absurd Oo e⟩
theorem app_for{α:Type}{m N:Nat}(l:List α)(hm:m=l.length)(hn:l.length<=1000000)(G:α->List Int){t:List Int}{B:List Int×Int->Option (LS (List Int×Int) (List Int))}(ht:(t++l.flatMap G).length<=N)
  (hB:∀ i (hi:i<l.length) t',(t'++G l[i]).length<=N->Gd (λa=>a=LS.go (t'++G l[i],w64 ((i:Int)+1))) (B (t',(i:Int)))) :
  Gd (λr=>r=t++l.flatMap G) (Qh (λst:List Int×Int=>if st.2<(m:Int) then B st else some (.out st.1)) (t,0)):=by
 subst hm
 &Gd.for l.length (λ(t:List Int) j=>(t,j)) (λi t'=>t'=t++(l.take i).flatMap G) t rfl (λ_ _=>rfl) Oo Os (λi hi t1 ht1=>?_) (λt1 ht1=>by rw [WR] at ht1;~ht1)
 have e:t1++G l[i]=t++(l.take (i+1)).flatMap G:=by
  rw [QI hi,Yv,ht1,WP]
  simp
 &(hB i hi t1 ?_).mono λa ha=>.inl ⟨_,ha,e⟩
 rw [e]
 have e2:l.flatMap G=(l.take (i+1)).flatMap G++(l.drop (i+1)).flatMap G:=by rw [<- Yv,Vu]
 rw [e2,<- WP,We] at ht
 omega
theorem QeP{α β:Type}(g:α->List β):∀ BL:List (List α),BL.flatten.flatMap g=BL.flatMap λb=>b.flatMap g
 | []=>rfl
 | b :: BL=>by rw [Vi,Yv,QeP g BL,VJ]
theorem QbZ{α β:Type}(g:α->List β)(p:β->Bool):∀ l:List α,(l.flatMap g).filter p=l.flatMap λa=>(g a).filter p
 | []=>rfl
 | a :: l=>by rw [VJ,VA,QbZ g p l,VJ]
theorem Qgh{α:Type}(p:α->Bool):∀ l:List α,(l.flatMap λy=>if p y=true then [y] else [])=l.filter p
 | []=>rfl
 | a :: l=>by
  rw [VJ,Qgh p l]
  by_cases h:p a=true
  ·rw [if_pos h,Yd h];rfl
  ·rw [if_neg h,Ye h];rfl
theorem srt_lt{l:List Int}(h:l.Nodup):(QeR l).Pairwise (· < ·):=by
 have h2:(QeR l).Nodup:=(List.mergeSort_perm l _).nodup_iff.2 h
 ~((srt_le l).and h2).imp λk=>by omega
theorem nodup_lenI{l:List Int}(h:l.Nodup){n:Nat}(h0:∀ x∈l,0<=x/\x<n):l.length<=n:=by
 rw [<- srt_len]
 ~asc_len (Wy.1 (srt_lt h)) λx hx=>h0 x (srt_mem.1 hx)
section
variable{h:Hp}{BL:List (List Itm)}
theorem adrs_lenJ(H:QG h BL){x:Itm}(hx:x∈BL.flatten):(Qdx h.space x).length<=16384:=by
 have hX:=H.sp.each x hx
 unfold Qdx
 rw [Wb,obs_len]
 have h1:=hX.lay.len'
 have h2:=hX.inc.wd
 have h3:=Z7 H.sp.ok
 omega
theorem adrs_rngJ(H:QG h BL){x:Itm}(hx:x∈BL.flatten):∀ a∈Qdx h.space x,I64 a:=λa ha=>by
 unfold Qdx at ha
 ð⟨⟨p,r,d⟩,ho,rfl⟩:=Wk.1 ha
 have hX:=H.sp.each x hx
 have b:=Itm.posOk H.sp.ok hX ho
 have:=Jo H.sp.ok.shp hX.inc.ch.lt (p:=p) Oo
 have h3:=Z7 H.sp.ok
 dsimp only
 unfold I64
 omega
theorem memB{i:Nat}(hi:i<BL.length){x:Itm}(hx:x∈BL[i]):x∈BL.flatten:=Vb.2 ⟨_,Wc hi,hx⟩
noncomputable def misW(s:Sp)(l:List Qe)(BL:List (List Itm)):List Int:=(slsB s BL.flatten).filter λq=>bP (MisP s l q)
theorem misW_eq(s:Sp)(l:List Qe):misW s l BL=BL.flatMap λb=>b.flatMap λx=>(Qdx s x).flatMap λa=>(Qb7 s a).1.flatMap λq=>if bP (MisP s l q)=true then [q] else []:=by
 unfold misW slsB slsX
 rw [QeP,QbZ]
 congr 1
 funext b
 rw [QbZ]
 congr 1
 funext x
 rw [QbZ]
 congr 1
 funext a
 rw [Qgh]
theorem slsB_rng(H:QG h BL){q:Int}(hq:q∈slsB h.space BL.flatten):0<=q/\q<h.space.ws.length:=by
 ð⟨x,hx,k⟩:=(slsB_mem H).1 hq
 have:=QdN H hx k
 ~⟨this.1,this.2.1⟩
theorem misW_nodup(H:QG h BL)(l:List Qe):(misW h.space l BL).Nodup:=(slsB_nodup H).filter _
theorem misW_len(H:QG h BL)(l:List Qe):(misW h.space l BL).length<=16384:=by
 have h1:=Z7 H.sp.ok
 have:=nodup_lenI (misW_nodup H l) (n:=h.space.ws.length) λq hq=>slsB_rng H (WI.1 hq).1
 omega
noncomputable def misL(s:Sp)(l:List Qe)(BL:List (List Itm)):List Int:=QeR (misW s l BL)
theorem misL_mem(H:QG h BL)(l:List Qe){q:Int}:q∈misL h.space l BL<->(∃ x∈BL.flatten,SlotX h.space x q)/\MisP h.space l q:=by
 unfold misL misW
 rw [srt_mem,WI,QE,slsB_mem H]
theorem missing_c(H:QG h BL){l:List Qe}(hl:Qo l)(hz:QcD l):ZW h.space h.belts l=some (misL h.space l BL):=by
 have hs:=H.sp.ok
 have hW:=H.sp.w
 have hwl:=Z7 hs
 have hcnt:=H.count
 have hbn:=H.bsz.1
 &Gd.eq ?_
 unfold ZW
 have hN:=misW_len H l
 rw [misW_eq] at hN
 &Gd.bind (P:=λr=>r=[]++BL.flatMap λb=>b.flatMap λx=>(Qdx h.space x).flatMap λa=>(Qb7 h.space a).1.flatMap λq=>if bP (MisP h.space l q)=true then [q] else []) ?_ λb hb=>?_
 ·have hbl:h.belts.length=BL.length:=by rw [H.bl,Wb]
  &app_for (N:=16384) BL hbl Oo _ (by rw [VV];~hN) λi hi t hit=>?_
  dsimp only
  have hbi:(BL[i]).length<=64:=by
   have:=YS (Yw (Wc hi))
   omega
  &Gd.bind (P:=λr=>r=t++(BL[i]).flatMap λx=>(Qdx h.space x).flatMap λa=>(Qb7 h.space a).1.flatMap λq=>if bP (MisP h.space l q)=true then [q] else []) ?_ λb hb=>.some (by rw [hb])
  &Gd.atN (l:=h.belts) (i:=i) Oo ?_
  have e1:h.belts[i]' Oo=(BL[i]).map Itm.i:=by simp only [H.bl,Va]
  rw [e1]
  &app_for (N:=16384) (BL[i]) (by rw [Wb]) Oo _ hit λj hj t hjt=>?_
  dsimp only
  have hx:=memB hi (Wc hj)
  &Gd.bind (P:=λr=>r=t++(Qdx h.space (BL[i])[j]).flatMap λa=>(Qb7 h.space a).1.flatMap λq=>if bP (MisP h.space l q)=true then [q] else []) ?_ λb hb=>.some (by rw [hb])
  &.atN (by rw [Wb];~hj) ?_
  rw [Va]
  &.call (walk_c hs hW (H.sp.each _ hx)) ?_
  dsimp only
  have hal:=adrs_lenJ H hx
  have har:=adrs_rngJ H hx
  generalize Qdx h.space (BL[i])[j]=A at hjt hal har
  &app_for (N:=16384) A rfl Oo _ hjt λk hk t hkt=>?_
  dsimp only
  &Gd.bind (P:=λr=>r=t++(Qb7 h.space A[k]).1.flatMap λq=>if bP (MisP h.space l q)=true then [q] else []) ?_ λb hb=>.some (by rw [hb])
  &.atN hk (.call (slots_c hs hW (har _ (Wc hk))) ?_)
  ð⟨f1,f2⟩:=flds_rng hs hW (a:=A[k])
  generalize (Qb7 h.space A[k]).1=F at f1 f2 hkt
  &app_for (N:=16384) F rfl Oo _ hkt λn hn t hnt=>?_
  dsimp only
  ð⟨q0,q1⟩:=f2 _ (Wc hn)
  have hw:wAt h.space F[n]=h.space.ws[(F[n]).toNat]' Oo:=QdL q0 Oo
  &.atN hn (.at q0 Oo ?_)
  rw [<- hw]
  have hu:=QfH hW F[n]
  clear hw
  generalize F[n]=q at q0 q1 hu hnt
  have hu':0<=wAt h.space q/\wAt h.space q<=18446744073709551615:=hu
  &.call (pair_c hs hu') (.call (QfY hs hu') (.ite (λhnd=>?_) λhnd=>?_))
  ·have hnd:=QE.1 hnd
   have hp:=hnd.1
   rw [if_pos hp]
   dsimp only
   &.call (has_c hl hz q (frOf_in hs q0 q1) (frOf_in hs Oo Oo)) (.ite (λhin=>?_) λhin=>?_)
   ·have:¬ MisP h.space l q:=λk=>k.2 (QE.1 hin)
    rw [Qdd this,if_neg Od,Vl]
    ~.some rfl
   ·have:MisP h.space l q:=⟨hnd,λk=>hin (J5 k)⟩
    rw [J5 this,if_pos rfl] at hnt ⊢
    have:t.length<=16384:=by rw [We] at hnt;omega
    ~.pos (X9 Oo Oo) (.some rfl)
  ·have:¬ MisP h.space l q:=λk=>hnd (J5 k.1)
   rw [Qdd this,if_neg Od,Vl]
   ~.some rfl
 ·rw [VV,<- misW_eq] at hb
  rw [<- misW_eq] at hN
  subst hb
  have e1:JI (misW h.space l BL)=some (misL h.space l BL):=by unfold JI;rw [if_pos Oo];rfl
  ~.call e1 (.pos (srt_len _) (.some rfl))
end
def awS:Sp:=⟨3,List.replicate 24 0,[⟨5,5,-1⟩,⟨2,4294967298,-1⟩,⟨-1,-1,-1⟩]⟩
theorem awS_ok:ZL awS:=by
 have hx:∀ i (h:i<awS.fs.length),awS.fs[i].nx = -1:=λi h=>by
  have h:i<3:=h
  match i,h with
  | 0,_=>rfl
  | 1,_=>rfl
  | 2,_=>rfl
 &⟨⟨by unfold Qco;~⟨Od,Od⟩,Od,Od,rfl⟩,λi h=>?_,λi j hi hj _ _ _=>hx i hi,λi hi=>?_⟩
 ·have h3:i<3:=h
  match i,h3 with
  | 0,_=>~.inr (show Qez awS 0 ⟨5,5,-1⟩ from ⟨⟨Od,Od,0,Od,Od,Od⟩,Od,Od,Od,λj hj e=>by have e:(-1:Int)=j:=e;omega⟩)
  | 1,_=>~.inr (show Qez awS 1 ⟨2,4294967298,-1⟩ from ⟨⟨Od,Od,1,Od,Od,Od⟩,Od,Od,Od,λj hj e=>by have e:(-1:Int)=j:=e;omega⟩)
  | 2,_=>~.inl ⟨rfl,rfl,rfl,λa ha _ _=>Uz (show awS.ws[a]∈List.replicate 24 (0:Int) from Wc ha)⟩
 ·rw [QbV hi,hx i hi]
  ~Xz _ rfl
theorem awS_w:SpW awS:=by
 &⟨λx hx=>?_,λf hf=>?_⟩
 ·have:=Uz (show x∈List.replicate 24 (0:Int) from hx)
  subst this
  unfold U64
  omega
 ·have hf:f∈[(⟨5,5,-1⟩:Fe),⟨2,4294967298,-1⟩,⟨-1,-1,-1⟩]:=hf
  simp only [Wt,Vx,or_false] at hf
  unfold I64
  rcases hf with rfl | rfl | rfl <;> decide
theorem sets_nil:Qo []:=⟨λx hx=>(by cases hx),λi h=>(by simp at h)⟩
theorem put_nil(f t s:Int):putK [] f t s=[⟨f,t,[s]⟩]:=by
 unfold putK
 rw [dif_neg λ⟨h,_⟩=>by simp at h]
 rfl
theorem awake_c:JY=some true:=by
 &Gd.eq ?_
 unfold JY
 &.call (new_spec (k:=3) (n:=3) (by unfold Qco;omega) Oo) ?_
 have e:(Sp.mk (newS 3 (3:Int).toNat).sh (newS 3 (3:Int).toNat).ws ((((newS 3 (3:Int).toNat).fs.set (Int.toNat 0) (Fe.mk 5 5 (-1))).set (Int.toNat 1) (Fe.mk 2 4294967298 (-1)))))=awS:=rfl
 dsimp only
 &.at0 Od (.at1 Od ?_)
 rw [e]
 have n1:QaL awS 9 1:=⟨⟨Od,Od,Od,Od⟩,Od,Od,Od,Od,Od⟩
 have n2:¬ QaL awS 1 10:=λ⟨_,_,_,_,_,h⟩=>by have h:(4294967298:Int)<5:=h;omega
 have n3:¬ QaL awS 9 0:=λh=>h.1.1 rfl
 &.call (record_c awS_w (l:=[]) Od (λx hx=>by cases hx) Oo) ?_
 &.call (QfY awS_ok Oo) (.pos (J5 n1) ?_)
 &.call (QfY awS_ok Oo) (.neg (by rw [Qdd n2];decide) ?_)
 &.call (QfY awS_ok Oo) (.neg (by rw [Qdd n3];decide) ?_)
 have hr:RecR awS [] 9 1=([⟨1,0,[9]⟩],0):=by
  unfold RecR
  rw [if_pos ⟨awS_ok,sets_nil⟩,if_pos n1,put_nil]
  rfl
 rw [hr]
 &.pos rfl (.pos rfl (.at0 (l:=([⟨1,0,[9]⟩]:List Qe)) Od (.pos rfl (.some rfl))))
theorem Qo.sub{l l':List Qe}(h:Qo l)(hz:QcD l)(hs:l'.Sublist l):Qo l'/\QcD l':=by
 ð⟨h1,h2⟩:=Qo.pw.1 h
 &⟨Qo.pw.2 ⟨λx hx=>h1 x (hs.subset hx),h2.sublist hs⟩,?_,λx hx=>hz.2 x (hs.subset hx)⟩
 have:=hs.length_le
 have:=hz.1
 omega
section
variable{h:Hp}{BL:List (List Itm)}
theorem slot_of(H:QG h BL){x:Itm}(hx:x∈BL.flatten){q:Int}(hs:SlotX h.space x q):QaB (szS h.space) BL.flatten q.toNat:=by
 ð⟨p,r,d,hp,k,k1,k2,e⟩:=hs
 ~⟨x,hx,p,r,d,hp,k,k1,k2,Oo⟩
theorem refw_in(H:QG h BL){w:Int}(hw:RefW (szS h.space) BL.flatten w):w=0\/(1<=w/\w<=h.space.ws.length):=by
 rcases hw with k | ⟨k,r,d,x,hx,p,hp,e⟩
 ·~.inl k
 ·have hX:=H.sp.each x hx
  have b:=Itm.posOk H.sp.ok hX hp
  have:=Jo H.sp.ok.shp hX.inc.ch.lt (p:=p) Oo
  ~.inr ⟨k,Oo⟩
theorem need_of(H:QG h BL){m:Nat}{x c:Itm}(hxd:x∈BL.flatten.drop m)(hc:c∈BL.flatten.take m){q w:Int}(hs:SlotX h.space x q)(hw:¬ w=0/\0<=w/\w<=h.space.ws.length)(hb:X7 h.space (w-1)<h.space.fs.length)(ho:h.space.fs[X7 h.space (w-1)].ow=c.i.seq):QaL h.space q w:=by
 have hord:=H.order
 rw [<- Vu m BL.flatten] at hord
 have hfirst:=(W5.1 hord).2.2
 have hx:x∈BL.flatten:=Uj hxd
 have hcm:c∈BL.flatten:=VU hc
 ð⟨hq0,f2,f1⟩:=QdN H hx hs
 have hci:=(H.sp.each c hcm).inc.toIncC
 have hxi:=(H.sp.each x hx).inc.toIncC
 have b2:=hxi.ch.lt _ f1
 have hcf:=(hci.ow _ hb).1 ho
 have hord:=hfirst c hc x hxd
 &⟨⟨hw.1,hw.2.2,hq0,f2⟩,b2,hb,?_,?_,?_⟩
 ·rw [(hxi.ow _ b2).2 f1];have:=hxi.sq;omega
 ·rw [ho];have:=hci.sq;omega
 ·rw [hxi.st _ b2 f1,hci.st _ hb hcf]
  unfold stmp at hord
  ~hord
def KnI(s:Sp)(D:Int->Prop)(B:Nat)(R:List Qe)(F:List Qa6):Prop:=Qo R/\XB R/\(∀ f t q,InS R f t q<->D q/\QaL s q (wAt s q)/\f=(X7 s q:Int)/\t=(X7 s (wAt s q-1):Int))/\(∀ p∈F,InS R p.frm p.to p.slot)/\F.length<=B
theorem KnI.iff{s:Sp}{D D':Int->Prop}{B B':Nat}{R:List Qe}{F:List Qa6}(k:KnI s D B R F)(hD:∀ z,D z<->D' z)(hB:B<=B'):KnI s D' B' R F:=⟨k.1,k.2.1,λf t q=>by rw [k.2.2.1 f t q,hD],k.2.2.2.1,Ug k.2.2.2.2 hB⟩
theorem KnI.note{s:Sp}(hs:ZL s){D:Int->Prop}{B:Nat}{R:List Qe}{F:List Qa6}(k:KnI s D B R F)(q:Int):KnI s (λz=>D z\/z=q) B (QfW s R q (wAt s q)) F:=by
 ð⟨n1,n2,n3⟩:=noteK_ok hs k.1 k.2.1 q (wAt s q)
 &⟨n1,n2,λf t z=>?_,λp hp=>(n3 _ _ _).2 (.inl (k.2.2.2.1 p hp)),k.2.2.2.2⟩
 rw [n3,k.2.2.1]
 constructor
 ·rintro (⟨a,b⟩ | ⟨a,b,c,e⟩)
  ·~⟨.inl a,b⟩
  ·rw [e];~⟨.inr rfl,a,b,c⟩
 ·rintro ⟨a | a,b⟩
  ·~.inl ⟨a,b⟩
  ·rw [a] at b;~.inr ⟨b.1,b.2.1,b.2.2,a⟩
theorem kn_for{α γ:Type}{s:Sp}{m:Nat}(l:List α)(hm:m=l.length)(hn:l.length<=1000000)(E:α->Int->Prop)(c:Nat){D:Int->Prop}{B:Nat}{R:List Qe}{F:List Qa6}{Bd:List Qe×List Qa6×Int->Option (LS (List Qe×List Qa6×Int) ((List Qe×List Qa6) ⊕ γ))}(h0:KnI s D B R F)
  (hB:∀ i (hi:i<l.length) (D':Int->Prop) B' R' F',B'+c<=B+l.length*c->KnI s D' B' R' F'->Gd (λa=>∃ R'' F'',a=LS.go (R'',F'',w64 ((i:Int)+1))/\KnI s (λz=>D' z\/E l[i] z) (B'+c) R'' F'') (Bd (R',F',(i:Int)))) :
  Gd (λr=>∃ R' F',r = .inl (R',F')/\KnI s (λz=>D z\/∃ a∈l,E a z) (B+l.length*c) R' F') (Qh (λst:List Qe×List Qa6×Int=>if st.2.2<(m:Int) then Bd st else some (.out (.inl (st.1,st.2.1)))) (R,F,0)):=by
 subst hm
 &Gd.for l.length (λ(t:List Qe×List Qa6) j=>(t.1,t.2,j)) (λi t=>KnI s (λz=>D z\/∃ a∈l.take i,E a z) (B+i*c) t.1 t.2) (R,F) rfl (λ_ _=>rfl) Oo (h0.iff (λz=>by simp) Oo) (λi hi t ht=>?_) (λt ht=>by rw [WR] at ht;~⟨_,_,rfl,ht⟩)
 have e1:(i+1)*c=i*c+c:=Vq i c
 have e2:(i+1)*c<=l.length*c:=WB c hi
 &(hB i hi _ _ t.1 t.2 Oo ht).mono λa ha=>?_
 ð⟨R2,F2,rfl,h2⟩:=ha
 &.inl ⟨(R2,F2),rfl,h2.iff (λz=>?_) Oo⟩
 rw [QI hi]
 constructor
 ·rintro ((k | ⟨a,ha,k⟩) | k)
  ·~.inl k
  ·~.inr ⟨a,Wf _ ha,k⟩
  ·~.inr ⟨_,Wj _ (Wo.2 rfl),k⟩
 ·rintro (k | ⟨a,ha,k⟩)
  ·~.inl (.inl k)
  ·rcases Wn.1 ha with ha | ha
   ·~.inl (.inr ⟨a,ha,k⟩)
   ·rw [Wo.1 ha] at k;~.inr k
set_option maxHeartbeats 2000000 in
theorem QgQ{l:List Int}{k:Int}(hl:∀ x∈l,I64 x)(hn:l.length<=9223372036854775807)(hk:I64 k):QgO l k=some true:=by
 ð⟨d,e0,hd⟩:=new_deck hl hn
 &Gd.eq ?_
 unfold QgO
 &.call e0 (.bind (heap_g hd) λr hr=>?_)
 ð⟨c,hM⟩:=hr
 ð⟨BL,H⟩:=hM.inv
 generalize r.1=h at H
 have hs:=H.sp.ok
 have hW:=H.sp.w
 have hcnt:=H.count
 have hfl:h.belts.flatten=BL.flatten.map Itm.i:=H.flat
 have hwl:=Z7 hs
 &.call (all15_c H.bsz) ?_
 rw [hfl]
 have hlen:(BL.flatten.map Itm.i).length=BL.flatten.length:=Wb ..
 rw [hlen]
 have e1:w64 ((BL.flatten.length:Int)+1)=(BL.flatten.length:Int)+1:=Qd Oo
 rw [e1]
 &.call (mod_c hk (n:=(BL.flatten.length:Int)+1) Oo) ?_
 have hm1:=V3 k (show (BL.flatten.length:Int)+1≠0 by omega)
 have hm2:=V4 k (show 0<(BL.flatten.length:Int)+1 by omega)
 generalize k%((BL.flatten.length:Int)+1)=mi at hm1 hm2
 obtain ⟨m,rfl⟩:∃ m:Nat,mi=(m:Int):=⟨mi.toNat,Oo⟩
 have epr:((BL.flatten.map Itm.i).take (Int.toNat (m:Int))).drop (Int.toNat 0)=(BL.flatten.take m).map Itm.i:=by
  rw [Wd,Yp];rfl
 rw [epr]
 have hcond:(0:Int)<=0/\0<=(m:Int)/\(m:Int)<=(BL.flatten.length:Int):=⟨Oo,Oo,Oo⟩
 &Gd.bndR (P:=λr=>∃ R F,r = .inl (R,F)/\KnI h.space (λz=>False\/∃ x∈BL.flatten,∃ a∈Qdx h.space x,z∈(Qb7 h.space a).1) (0+BL.flatten.length*15728640) R F) ?_ (λb hb=>?_) (λr hr=>by ð⟨_,_,e,_⟩:=hr;cases e)
 ·&kn_for BL.flatten rfl Oo (λx z=>∃ a∈Qdx h.space x,z∈(Qb7 h.space a).1) 15728640 (D:=λ_=>False) (B:=0) ⟨⟨Os,Os⟩,by intro x hx;simp at hx,λf t q=>⟨λk=>by ð⟨x,hx,_⟩:=k;simp at hx,λk=>k.1.elim⟩,Os,Wl _⟩ λi hi D1 B1 R1 F1 hb1 k1=>?_
  dsimp only
  &Gd.bndR (P:=λr=>∃ R F,r = .inl (R,F)/\KnI h.space (λz=>D1 z\/∃ a∈Qdx h.space BL.flatten[i],z∈(Qb7 h.space a).1) (B1+15728640) R F) ?_ (λb hb=>by ð⟨R2,F2,e,k2⟩:=hb;cases e;~.some ⟨_,_,rfl,k2⟩) (λr hr=>by ð⟨_,_,e,_⟩:=hr;cases e)
  have hx:BL.flatten[i]∈BL.flatten:=Wc hi
  &.atN (by rw [hlen];~hi) ?_
  rw [Va]
  &.call (all_spec hs hW (H.sp.each _ hx)) ?_
  dsimp only
  have hal:=adrs_lenJ H hx
  have har:=adrs_rngJ H hx
  &(kn_for (Qdx h.space BL.flatten[i]) rfl Oo (λa z=>z∈(Qb7 h.space a).1) 960 k1 λj hj D2 B2 R2 F2 hb2 k2=>?_).mono λr hr=>by
   ð⟨R,F,e,k⟩:=hr
   ~⟨R,F,e,k.iff (λ_=>Iff.rfl) Oo⟩
  dsimp only
  have haj:(Qdx h.space BL.flatten[i])[j]∈Qdx h.space BL.flatten[i]:=Wc hj
  &Gd.bndR (P:=λr=>∃ R F,r = .inl (R,F)/\KnI h.space (λz=>D2 z\/z∈(Qb7 h.space (Qdx h.space BL.flatten[i])[j]).1) (B2+960) R F) ?_ (λb hb=>by ð⟨R2,F2,e,k2⟩:=hb;cases e;~.some ⟨_,_,rfl,k2⟩) (λr hr=>by ð⟨_,_,e,_⟩:=hr;cases e)
  &.atN hj (.call (fields_c hs.shp (Ze hs.fm) hW (har _ haj)) ?_)
  ð⟨f1,f2⟩:=flds_rng hs hW (a:=(Qdx h.space BL.flatten[i])[j])
  &(kn_for (Qb7 h.space (Qdx h.space BL.flatten[i])[j]).1 rfl Oo (λq z=>z=q) 64 k2 λn hn D3 B3 R3 F3 hb3 k3=>?_).mono λr hr=>by
   ð⟨R,F,e,k⟩:=hr
   ~⟨R,F,e,k.iff (λz=>by simp) Oo⟩
  dsimp only
  have hqm:=Wc hn
  have hqs:=(fld_mem H hx).1 ⟨_,haj,hqm⟩
  ð⟨q0,q1⟩:=f2 _ hqm
  &Gd.bndR (P:=λr=>∃ R F,r = .inl (R,F)/\KnI h.space (λz=>D3 z\/z=(Qb7 h.space (Qdx h.space BL.flatten[i])[j]).1[n]) (B3+64) R F) ?_ (λb hb=>by ð⟨R2,F2,e,k2⟩:=hb;cases e;~.some ⟨_,_,rfl,k2⟩) (λr hr=>by ð⟨_,_,e,_⟩:=hr;cases e)
  &.atN hn ?_
  generalize (Qb7 h.space (Qdx h.space BL.flatten[i])[j]).1[n]=q at q0 q1 hqs
  have hw:wAt h.space q=h.space.ws[q.toNat]' Oo:=QdL q0 Oo
  &.at q0 Oo ?_
  rw [<- hw]
  clear hw
  have hu':0<=wAt h.space q/\wAt h.space q<=18446744073709551615:=QfH hW q
  have hsz:=k3.1.sz k3.2.1
  have er:RecR h.space R3 q (wAt h.space q)=(QfW h.space R3 q (wAt h.space q),0):=by
   unfold RecR QfW
   rw [if_pos ⟨hs,k3.1⟩]
  have k4:=k3.note hs q
  have hrw:=refw_in H (by
   have:=H.refs _ (slot_of H hx hqs)
   rwa [show ((q.toNat:Nat):Int)=q by omega] at this)
  &.call (record_c hW hsz.1 hsz.2 hu') ?_
  rw [er]
  &.pos rfl (.ite (λ_=>.some ⟨_,_,rfl,k4.iff (λ_=>Iff.rfl) Oo⟩) λhw0=>.ite (λ_=>.some ⟨_,_,rfl,k4.iff (λ_=>Iff.rfl) Oo⟩) λhim=>?_)
  have hw1:1<=wAt h.space q/\wAt h.space q<=h.space.ws.length:=hrw.resolve_left hw0
  have esh:QbO .i64 (w64 (wu (wAt h.space q-1))) (wu h.space.sh)=(X7 h.space (wAt h.space q-1):Int):=by
   rw [Xv Oo,Qd Oo,shr_k hs.shp.sh (wAt h.space q-1).toNat Oo]
   rfl
  have esq:QbO .i64 q (wu h.space.sh)=(X7 h.space q:Int):=by
   rw [shr_k hs.shp.sh q.toNat Oo]
   rfl
  rw [esh,esq]
  have hb:=Qet hs (a:=wAt h.space q-1) Oo Oo
  have hdr:BL.flatten[i]∈BL.flatten.drop m:=by
   rw [WN]
   ~⟨i-m,by rw [Ww];omega,by rw [UQ];congr 1;omega⟩
  &.pos (wu_sh hs.shp.sh) (.pos hcond ?_)
  have hcl:((BL.flatten.take m).map Itm.i).length<=64:=by rw [Wb,Wi];omega
  &Gd.for ((BL.flatten.take m).map Itm.i).length (λ(F:List Qa6) e=>(F,e)) (λe F=>(∀ p∈F,InS (QfW h.space R3 q (wAt h.space q)) p.frm p.to p.slot)/\F.length<=B3+e) F3 rfl (λ_ _=>rfl) Oo ⟨k4.2.2.2.1,k4.2.2.2.2⟩ (λe he F hF=>?_) (λF hF=>⟨_,F,rfl,k4.1,k4.2.1,k4.2.2.1,hF.1,Ug hF.2 (Nat.add_le_add_left hcl B3)⟩)
  have he':e<(BL.flatten.take m).length:=by rw [Wb] at he;~he
  &.atN he (.atN hb ?_)
  rw [Va]
  &.ite (λho=>?_) λ_=>.some (.inl ⟨F,rfl,hF.1,by have:=hF.2;omega⟩)
  have hnd:=need_of H hdr (Wc he') hqs ⟨hw0,Oo,hw1.2⟩ hb ho
  &.pos ?_ (.some (.inl ⟨_,rfl,λp hp=>?_,?_⟩))
  ·rw [WK]
   have h2:=hF.2
   dsimp only at h2 ⊢
   omega
  ·rcases Wn.1 hp with hp | hp
   ·~hF.1 p hp
   ·rw [Wo.1 hp]
    ~(k4.2.2.1 _ _ _).2 ⟨.inr rfl,hnd,rfl,rfl⟩
  ·rw [We,WK]
   have h2:=hF.2
   dsimp only at h2 ⊢
   omega
 ·ð⟨R,F,e,k⟩:=hb
  cases e
  have hsz:=k.1.sz k.2.1
  have hFl:=k.2.2.2.2
  &Gd.bndR (P:=λr=>r = .inl ()) ?_ (λb _=>?_) (λr hr=>by cases hr)
  ·&Gd.for F.length (λ(_:Unit) i=>i) (λ_ _=>True) () rfl (λ_ _=>rfl) Oo trivial (λi hi _ _=>?_) (λ_ _=>rfl)
   &.atN hi (.call (rhas_c hsz _ _ _) (.pos (J5 (k.2.2.2.1 _ (Wc hi))) (.some (.inl ⟨(),rfl,trivial⟩))))
  ·have hnil:misL h.space R BL=[]:=List.eq_nil_iff_forall_not_mem.2 λz hz=>by
    ð⟨⟨x,hx,hq⟩,hnd,hno⟩:=(misL_mem H R).1 hz
    ð⟨a,ha,hp⟩:=(fld_mem H hx).2 hq
    ~hno ((k.2.2.1 _ _ _).2 ⟨.inr ⟨x,hx,a,ha,hp⟩,hnd,rfl,rfl⟩)
   &.call (missing_c H k.1 hsz) ?_
   rw [hnil]
   ~.pos rfl (.call awake_c (.some rfl))
end
open Go.RowKit Go.ChangeShapes Go.WideShapes Go.Deep
abbrev mem0(w:World):Mem:=⟨w,λ_=>False,λ_=>none⟩
theorem mem0_no(w:World)(k:Nat):¬ (mem0 w).no k:=λh=>by
 rcases h with h | ⟨s,e,h,_⟩
 ·~h
 ·cases h
theorem Reps.nil'{m:Mem}:Reps m [] []:=⟨rfl,λi v d h=>by simp at h⟩
theorem Reps.cons'{m:Mem}{v:Value}{d:DV}{vs:List Value}{ds:List DV}(h:Rep m v d)(hs:Reps m vs ds):Reps m (v :: vs) (d :: ds):=⟨by rw [WX,WX,hs.1],λi u e hu he=>by
 cases i with
 | zero =>
  simp only [WJ,Wx] at hu he
  subst hu
  subst he
  ~h
 | succ i=>~hs.2 i u e (by simpa using hu) (by simpa using he)⟩
def TabW(w:World):Prop:=TabF ⟨w,Xof (λ_=>none),Yof (λ_=>none)⟩ (λ_=>False)
theorem DCall.walk{P:Program}{f:FuncId}{ds:List DV}(h:DCall P f ds [] (DB true) []){w:World}{vs:List Value}(hr:Reps (mem0 w) vs ds)(htab:TabW w:=by first | ~TabF.none rfl | assumption):Calls P f vs.toArray w λe w'=>e = .returned (.bool true)/\Below w.heap.size w w':=by
 have hx:∀ k,¬ Xof (λ_=>none) k:=λk ⟨s,e,h,_⟩=>by cases h
 have hI:Inv ⟨w,Xof (λ_=>none),Yof (λ_=>none)⟩ (mem0 w):=⟨rfl,rfl,rfl,Wl _,λ_ _ _=>rfl,λs s' e e' g h=>(by cases h),λs e g h=>(by cases h),λk h=>False.elim h,λs e g c h=>(by cases h),htab⟩
 &Calls.mono (h.2 w (λ_=>False) (λ_=>none) vs hI (λs ob h=>by cases h) (λ_ _=>rfl) hr) λe w' ⟨v,σ',he,q1,q2,q3,q4,q5⟩=>?_
 subst he
 rw [q3.lit_inv]
 ~⟨rfl,q1.os,q1.tape,q1.output,q1.size,λk hk=>q1.old k hk (hx k)⟩
def CRd(w:World)(cs:List Value)(ds:List DV):Prop:=cs.length=ds.length/\∀ (i:Nat) v d,cs[i]?=some v->ds[i]?=some d->PRep w (mem0 w).no v d
theorem CRd.one{w:World}{v:Value}{d:DV}(h:PRep w (mem0 w).no v d):CRd w [v] [d]:=⟨rfl,λi u e hu he=>by
 cases i with
 | zero =>
  simp only [WJ,Wx] at hu he
  subst hu
  subst he
  ~h
 | succ i=>simp at hu⟩
theorem CRd.get{w:World}{v:Value}{d:DV}(h:CRd w [v] [d]):PRep w (mem0 w).no v d:=h.2 0 v d rfl rfl
theorem CRd.append{w:World}{cs cs':List Value}{ds ds':List DV}(h:CRd w cs ds)(h':CRd w cs' ds'):CRd w (cs++cs') (ds++ds'):=by
 &⟨by rw [We,We,h.1,h'.1],λi v d hv hd=>?_⟩
 by_cases hi:i<cs.length
 ·rw [WM hi] at hv
  rw [WM (by rw [<- h.1];~hi)] at hd
  ~h.2 i v d hv hd
 ·rw [WO Oo] at hv
  rw [WO (by rw [<- h.1];omega),<- h.1] at hd
  ~h'.2 _ v d hv hd
section
variable{P:Program}
def OpD{α:Type}(P:Program)(t:TypeId)(c:α->List DV)(ok:α->Prop):Prop :=
 ∀ (H:Type) (enc:TypeId×Value->H) (w:World) (base:Nat) (spare:Nat->Bool) (held:Bool) (fuel:Nat) (cs:List Value) (x:DataW H×List MemPlace),
  DataW.trod enc P w base spare held fuel t cs=some x->∃ a,CRd w cs (c a)/\ok a
theorem OpD.i64{t:TypeId}(ht:P.underlying t=some (.int .i64)):OpD P t iC I64:=by
 intro H enc w base spare held fuel cs x h
 ð⟨n,rfl,_,hn⟩:=DataW.trod_int ht h
 &⟨n,CRd.one (.lit _ rfl),?_⟩
 simp [Lit.wf,IntKind.min,IntKind.max,IntKind.bits,IntKind.signed] at hn
 unfold I64
 omega
theorem OpD.u64{t:TypeId}(ht:P.underlying t=some (.int .u64)):OpD P t uC U64:=by
 intro H enc w base spare held fuel cs x h
 ð⟨n,rfl,_,hn⟩:=DataW.trod_int ht h
 &⟨n,CRd.one (.lit _ rfl),?_⟩
 simp [Lit.wf,IntKind.min,IntKind.max,IntKind.bits,IntKind.signed] at hn
 unfold U64
 omega
theorem OpD.bool{t:TypeId}(ht:P.underlying t=some .bool):OpD P t bC λ_=>True:=by
 intro H enc w base spare held fuel cs x h
 ð⟨n,rfl,_⟩:=DataW.trod_bool ht h
 ~⟨n,CRd.one (.lit _ rfl),trivial⟩
theorem choose_listD{α:Type}{n:Nat}{p:Nat->α->Prop}(h:∀ i,i<n->∃ a,p i a):∃ l:List α,l.length=n/\∀ i (hi:i<l.length),p i l[i]:=by
 induction n with
 | zero=>~⟨[],rfl,λi hi=>absurd hi (WZ _)⟩
 | succ n ih =>
  ð⟨l,hl,hp⟩:=ih λi hi=>h i Oo
  ð⟨a,ha⟩:=h n Oo
  &⟨l++[a],by simp [hl],λi hi=>?_⟩
  by_cases hlt:i<l.length
  ·rw [YG hlt];~hp i hlt
  ·have:i=n:=by simp at hi;omega
   subst this
   rw [U0 Oo]
   simpa using ha
theorem OpD.slice{α:Type}{c:α->List DV}{ok:α->Prop}{t e sz:Nat}(ht:P.underlying t=some (.slice e))(hc:P.cellsOf e=sz)(hp:0<sz)(hz:∀ a,(c a).length=sz)(h:OpD P e c ok):OpD P t (lC c) λxs=>(∀ x∈xs,ok x)/\xs.length<=9223372036854775807:=by
 intro H enc w base spare held fuel cs x hx
 rcases open_slice ht hx with ⟨rfl,_⟩ | ⟨a,len,cap,m,n,D,Pl,rfl,hb,hl,hm,hmm,_,hel⟩
 ·~⟨[],CRd.one (.nil none 0 (WT _)),(λx hx=>by cases hx),Os⟩
 ·have hlm:len<=m:=by rw [hmm];split <;> omega
  ð⟨l,hll,hlp⟩:=choose_listD (n:=len) (p:=λi y=>ok y/\∃ cs',CRd w cs' (c y)/\∀ j,j<sz->w.cell? (a.add (i*sz+j))=cs'[j]?) λi hi=>by
   ð⟨cs',h1,h2⟩:=hel i Oo
   ð⟨y,hy,hok⟩:=h H enc w base spare held n cs' _ h2
   rw [hc] at h1
   ð⟨_,hlen,hcell⟩:=World.cells?_some h1
   &⟨y,hok,cs',hy,λj hj=>?_⟩
   have:=hcell j Oo
   rw [add_add] at this
   rw [this]
  &⟨l,CRd.one ?_,λx hx=>?_,by unfold maxLen at hm;omega⟩
  ·by_cases h0:len=0
   ·have:l=[]:=Vp.1 Oo
    subst this
    subst h0
    ~.nil _ _ hm
   ·ð⟨b,off,spot⟩:=a
    ð⟨_,cs0,hr0,hcl0⟩:=hlp 0 Oo
    have hl0:cs0.length=sz:=by rw [hr0.1,hz]
    have h00:=hcl0 0 hp
    rw [Wa Oo] at h00
    have hspot:spot=none:=by
     have:=World.cell?_spot h00
     simpa [Addr.add] using this
    subst hspot
    have hadd:∀ k,(⟨b,off,none⟩:Addr).add k=⟨b,off+k,none⟩:=λk=>add_lit
    rw [hadd] at h00
    have hbl:=World.block_lt_of_cell? w (a:=_) (u:=_) h00
    have hf:∀ i,∃ g:Nat->Value,i<l.length->∀ j d,((l.map c)[i]?).bind (·[j]?)=some d->w.cell? ⟨b,off+i*sz+j,none⟩=some (g j)/\PRep w (mem0 w).no (g j) d:=λi=>by
     by_cases hi:i<l.length
     ·ð⟨_,cs',hr,hcl⟩:=hlp i hi
      &⟨λj=>cs'.getD j undef,λ_ j d hd=>?_⟩
      rw [Wh,Wa hi] at hd
      simp only [Wu,WQ] at hd
      have hj:j<sz:=by
       rw [<- hz l[i]]
       rcases Ws j (c l[i]).length with h' | h'
       ·~h'
       ·rw [Wg h'] at hd;cases hd
      have hl2:cs'.length=sz:=by rw [hr.1,hz]
      have hc2:=hcl j hj
      rw [Wa Oo,hadd] at hc2
      have hgd:cs'.getD j undef=cs'[j]' Oo:=by simp [List.getD,show j<cs'.length by omega]
      dsimp only
      rw [hgd,Vf]
      ~⟨hc2,hr.2 j _ d (Wa Oo) hd⟩
     ·~⟨λ_=>undef,λh=>absurd h hi⟩
    have key:=Classical.axiomOfChoice hf
    ð⟨g,hg⟩:=key
    have hlt:∀ (i:Nat) (x:List DV),(l.map c)[i]?=some x->i<l.length:=λi x hx=>by
     rcases Ws i l.length with h' | h'
     ·~h'
     ·rw [Wg (by simpa using h')] at hx;cases hx
    have:=PRep.sl (w:=w) (no:=(mem0 w).no) b off cap sz (l.map c) g hp (by rw [Wb];omega) (by rw [Wb];omega) hm (mem0_no w b) hbl (λi x hx=>by
     have hi:=hlt i x hx
     rw [Wh,Wa hi] at hx
     simp only [Wu,Wx] at hx
     rw [<- hx,hz]) (λi x j d hx hd=>(hg i (hlt i x hx) j d (by rw [hx];~hd)).1) (λi x j d hx hd=>(hg i (hlt i x hx) j d (by rw [hx];~hd)).2)
    rw [Wb,hll] at this
    ~this
  ·ð⟨i,hi,rfl⟩:=UB hx
   ~(hlp i hi).1
inductive FOpD(P:Program):{α:Type}->List Field->Nat->(α->List DV)->Nat->(α->Prop)->Prop
 | nil {off:Nat}:FOpD P [] off (λ_:Unit=>[]) 0 λ_=>True
 | cons {α β:Type} {f:Field} {fs:List Field} {off z z':Nat} {c:α->List DV} {c':β->List DV} {ok:α->Prop} {okF:β->Prop} (ho:f.offset=off) (hc:P.cellsOf f.type=z) (h:OpD P f.type c ok) (hs:FOpD P fs (off+z) c' z' okF) :
   FOpD P (f :: fs) off (λp:α×β=>c p.1++c' p.2) (z+z') λp=>ok p.1/\okF p.2
theorem fields_openD{α:Type}{fs:List Field}{off z:Nat}{c:α->List DV}{ok:α->Prop}(hf:FOpD P fs off c z ok) :
  ∀ (H:Type) (enc:TypeId×Value->H) (w:World) (base:Nat) (spare:Nat->Bool) (held:Bool) (n:Nat) (cs:List Value),cs.length=off+z ->
   (∀ (i:Nat) (f:Field),fs[i]?=some f->∃ y,DataW.trod enc P w base spare held n f.type ((cs.drop f.offset).take (P.cellsOf f.type))=some y)->∃ a,CRd w (cs.drop off) (c a)/\ok a:=by
 induction hf with
 | nil =>
  intro H enc w base spare held n cs hl _
  rw [VF Oo]
  ~⟨(),⟨rfl,λi v d h=>by simp at h⟩,trivial⟩
 | @cons α β f fs off z z' c c' ok okF ho hc h hs ih =>
  intro H enc w base spare held n cs hl hfs
  ð⟨y,hy⟩:=hfs 0 f rfl
  ð⟨a,ha,hoka⟩:=h H enc w base spare held n _ _ hy
  ð⟨b,hb,hokb⟩:=ih H enc w base spare held n cs Oo λi g hg=>hfs (i+1) g (by simpa using hg)
  rw [ho,hc] at ha
  &⟨(a,b),?_,hoka,hokb⟩
  have:=ha.append hb
  rw [<- Y8,Vu] at this
  ~this
theorem OpD.struct{α:Type}{c:α->List DV}{ok:α->Prop}{t z:Nat}{fs:Array Field}(ht:P.underlying t=some (.struct fs))(hc:P.cellsOf t=z)(hf:FOpD P fs.toList 0 c z ok):OpD P t c ok:=by
 intro H enc w base spare held fuel cs x h
 ð⟨xs,n,_,_,hcl,hxl,hfs⟩:=DataW.trod_struct ht h
 ð⟨a,ha,hok⟩:=fields_openD hf H enc w base spare held n cs (by rw [hcl,hc];omega) λi f hi=>by
  have hi':fs[i]?=some f:=by simpa using hi
  have:=hfs i f hi'
  have hlt:i<xs.length:=by
   rw [hxl]
   ~(Vz.1 hi').1
  ~⟨xs[i],by rw [this,Wa hlt]⟩
 ~⟨a,by simpa using ha,hok⟩
theorem OpD.map{α β:Type}{c:α->List DV}{c':β->List DV}{ok:α->Prop}{ok':β->Prop}{t:TypeId}(h:OpD P t c ok)(g:α->β)(hg:∀ a,c' (g a)=c a)(hok:∀ a,ok a->ok' (g a)):OpD P t c' ok':=by
 intro H enc w base spare held fuel cs x hx
 ð⟨a,ha,hk⟩:=h H enc w base spare held fuel cs x hx
 ~⟨g a,by rw [hg];~ha,hok a hk⟩
theorem OpD.arg{α:Type}{t:TypeId}{c:α->List DV}{ok:α->Prop}(h:OpD P t c ok){H:Type}{enc:TypeId×Value->H}{w:World}{base:Nat}{spare:Nat->Bool}{held:Bool}{v:Value}{d:DataW H}{ps:List MemPlace}
  (hd:DataW.Trod enc P w base spare held t v d ps):∃ a,CRd w v.cells.toList (c a)/\ok a:=by
 ð⟨fuel,hf⟩:=hd
 ~h H enc w base spare held fuel _ _ hf
end
theorem CRd.agg{w:World}{cs:Array Value}{ds:List DV}(h:CRd w (Value.agg cs).cells.toList ds):Rep (mem0 w) (.agg cs) (.agg ds):=by
 have:=Rep.agg (m:=mem0 w) (vs:=cs.toList) (xs:=ds) h.1 λi v d hv hd=>.pure (h.2 i v d hv hd)
 simpa using this
theorem CRd.slc{w:World}{a:Option Addr}{l c:Nat}{d:DV}(h:CRd w (Value.slice a l c).cells.toList [d]):Rep (mem0 w) (.slice a l c) d:=.pure (CRd.get (by simpa [Value.cells] using h))
open Go.RowKit Go.ChangeShapes Go.WideShapes Go.Deep
theorem i64_of{a:Int}(h:(Lit.int .i64 a).wf=true):I64 a:=by
 simp [Lit.wf,IntKind.min,IntKind.max,IntKind.bits,IntKind.signed] at h
 unfold I64
 omega
theorem op_int:OpD Tryz.prog 3 iC I64:=OpD.i64 Tryz.underlying3
theorem op_ints:OpD Tryz.prog 22 (lC iC) λxs=>(∀ x∈xs,I64 x)/\xs.length<=9223372036854775807:=OpD.slice (sz:=1) Tryz.underlying22 Ok Od (λ_=>rfl) op_int
theorem barrierKnows_dc(l:List Int)(k:Int)(hl:(∀ x∈l,I64 x)/\l.length<=9223372036854775807)(hk:I64 k):DCall Tryz.prog 4 [.sl (l.map iC),DI k] [] (DB true) []:=QgP ⟨QgQ hl.1 hl.2 hk⟩
end Go.Proofs.YtkfnkecgcdhncaaGreat
