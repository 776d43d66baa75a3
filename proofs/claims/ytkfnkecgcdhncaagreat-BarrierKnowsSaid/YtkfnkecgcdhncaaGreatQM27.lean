/- Parts of the proof. No condition. -/
import Derived.Test.YtkfnkecgcdhncaaGreatQM0
import Derived.Test.YtkfnkecgcdhncaaGreatQM2
import Derived.Test.YtkfnkecgcdhncaaGreatQM25
import Derived.Test.YtkfnkecgcdhncaaGreatQM26
import Derived.ChangeSlices
import Derived.Deep.Slices
import Derived.Below
import Derived.Test.YtkfnkecgcdhncaaGreatRows
import Derived.Test.YtkfnkecgcdhncaaGreatChecked
import Derived.KernelRfl
noncomputable section
namespace Go.Proofs.YtkfnkecgcdhncaaGreat
open Go.RowKit
set_option linter.unusedSimpArgs false
set_option linter.unusedVariables false
def rtsH(h:Hp)(R:Rts):Hp:=⟨h.config,h.space,h.belts,h.seq,h.sets,R,h.since,h.stats,h.dead⟩
def plcD(h:Hp)(o:AOp):Int×Int:=PlcR h.space (QdH h.roots o.a-1) o.b (decide (o.code=2\/o.code=3))
def fldD(h:Hp)(o:AOp):Hp×Ans := if (plcD h o).2=0 then(if o.code=4 then(h,⟨0,wAt h.space (plcD h o).1⟩) else if o.code=2 then(if wAt h.space (plcD h o).1=0 then(h,⟨0,0⟩) else if (Zv h.roots).length=32 then(h,⟨15,0⟩) else(rtsH h (takE h.roots (wAt h.space (plcD h o).1)).1,⟨0,(takE h.roots (wAt h.space (plcD h o).1)).2.1⟩)) else if o.code=3 then(if Qfu h.roots o.c_ false=0 then(rfwH h (plcD h o).1 (QdH h.roots o.c_),⟨0,0⟩) else(h,⟨Qfu h.roots o.c_ false,0⟩)) else(datH h (plcD h o).1 (wu o.c_),⟨0,0⟩)) else(h,⟨(plcD h o).2,0⟩)
def doR(h:Hp)(o:AOp):Hp×Ans := if o.code<1\/10<o.code then(h,⟨if h.dead=true/\¬ o.code=0 then 19 else 20,0⟩) else if h.dead=true then(h,⟨19,0⟩) else if o.code=1 then alcD h o.a o.b else if o.code=8 then((QdI 0 300 (cntH h h.since) ⟨0,false,0⟩).1,⟨0,0⟩) else if o.code=10 then(h,⟨0,wu (sumW h.belts.flatten)⟩) else if o.code=6 then(if Qfu h.roots o.a false=0 then(if Qfu h.roots o.b false=0 then(h,⟨0,if QdH h.roots o.a=QdH h.roots o.b then 1 else 0⟩) else(h,⟨Qfu h.roots o.b false,0⟩)) else(h,⟨Qfu h.roots o.a false,0⟩)) else if Qfu h.roots o.a true=0 then(if o.code=7 then(rtsH h (drpR h.roots (o.a-1).toNat),⟨0,0⟩) else if o.code=9 then(h,⟨0,wu (256*(Qy h.space (QdH h.roots o.a-1)).r+(Qy h.space (QdH h.roots o.a-1)).d)⟩) else fldD h o) else(h,⟨Qfu h.roots o.a true,0⟩)
structure OpI(o:AOp):Prop where
 b:I64 o.b
section
variable{h:Hp}{BL:List (List Itm)}
theorem fld_c(H:QG h BL)(D:¬ h.dead=true){o:AOp}(B:OpI o)(I:Qfu h.roots o.a true=0)(O:o.code=2\/o.code=3\/o.code=4\/o.code=5):JM h o=some (fldD h o):=by
 obtain ⟨i,ei,hi,hl⟩:∃ i:Nat,o.a=((i+1:Nat):Int)/\i<32/\i∈Zv h.roots:=by
  rcases hdlE_0 I with ⟨_,k⟩ | k
  ·cases k
  ·exact k
 obtain ⟨x,p,r,d,X⟩:=root_x H hl;have C:QdH h.roots o.a=QD h.roots i:=by rw[ei];exact wrd_i i _
 have E:=X.lt;have J:=H.sp.each x X.hx;have K:=X.e;have w:QK h o.a=some (QD h.roots i):=by rw[QdK H.rts Oo,C]
 have e:w64 (w64 (QD h.roots i)-1)=QD h.roots i-1:=by rw[Qd (n:=QD h.roots i) Oo,Qd Oo]
 have s:=λc=>place_c H.sp.ok.shp (Ze H.sp.ok.fm) H.sp.w (a:=QD h.roots i-1) (by unfold I64;omega) B.b c;have t:∀ c,(PlcR h.space (QD h.roots i-1) o.b c).2=0->∃ q:Nat,(PlcR h.space (QD h.roots i-1) o.b c).1=(q:Int)/\q<h.space.ws.length:=λc b=>by
  have l:=X.plc o.b c;have u:¬ (o.b<0\/(if c then(r:Int) else d)<=o.b):=λk=>by rw[l,if_pos k]at b;cases b
  rw[if_neg u]at l;exact ⟨_,by rw[l],(X.fld u).lt⟩
 refine Gd.eq ?_;unfold JM fldD plcD;rw[C];refine .ite (λf=>?_) λf=>?_
 ·have f:o.code=2:=f;have y:decide (o.code=2\/o.code=3)=true:=decide_eq_true (.inl f);rw[y];refine .call w ?_;rw[e];refine .call (s true) ?_;refine .ite (λb=>?_) λb=>?_
  ·have b:(PlcR h.space (QD h.roots i-1) o.b true).2=0:=b;obtain ⟨q,m,v⟩:=t true b;rw[if_pos b,if_neg Oo,if_pos f,m];rw[Jk (Wa v)];refine .atN v (.neg Oo ?_);refine .ite (λk=>.some (by rw[if_pos k])) λk=>?_;rw[if_neg k];refine .call (full28_c H.rts) (.ite (λz=>.some (by rw[if_pos (of_decide_eq_true z)])) λz=>?_);rw[if_neg (λk=>z (decide_eq_true k))];refine .call (Qb1 H) (.call (take20_c H.rts _) (.some ?_));have:=takE_rng h.roots H.rts.u h.space.ws[q];rw[Xv Oo];rfl
  ·have b:¬ (PlcR h.space (QD h.roots i-1) o.b true).2=0:=b;rw[if_neg b];exact .some rfl
 ·have f:¬ o.code=2:=f;have y:decide (o.code=2\/o.code=3)=decide (o.code=3):=by rw[decide_eq_decide];exact ⟨λk=>k.resolve_left f,.inr⟩
  rw[y];refine .call w ?_;rw[e];refine .call (s _) ?_;refine .ite (λb=>?_) λb=>?_
  ·have b:(PlcR h.space (QD h.roots i-1) o.b (decide (o.code=3))).2=0:=b;obtain ⟨q,m,v⟩:=t _ b;rw[if_pos b,m];refine .atN v (.ite (λA=>?_) λA=>?_)
   ·rw[if_pos A,Jk (Wa v)];exact .some rfl
   ·rw[if_neg A,if_neg f];refine .ite (λg=>?_) λg=>?_
    ·have g:o.code=3:=g;rw[if_pos g];rw[decide_eq_true g]at b m;refine .call (Qc1 H.rts _ _) (.ite (λj=>?_) λj=>?_)
     ·have j:Qfu h.roots o.c_ false=0:=j;rw[if_pos j];obtain ⟨L,M,N,F,G⟩:=wrd_ref H j;refine .call w (.call (QdK H.rts ⟨F,G⟩) ?_);rw[e];refine .call (X.wref D B.b b j).1 (.some ?_);rw[m]
     ·have j:¬ Qfu h.roots o.c_ false=0:=j;rw[if_neg j];exact .some rfl
    ·have g:¬ o.code=3:=g;rw[if_neg g];rw[decide_eq_false g]at b m;refine .call w ?_;rw[e];refine .call (X.wdat D B.b b (wu_u _)).1 (.some ?_);rw[m]
  ·have b:¬ (PlcR h.space (QD h.roots i-1) o.b (decide (o.code=3))).2=0:=b;rw[if_neg b];exact .some rfl
end
section
variable{h:Hp}{BL:List (List Itm)}
theorem hdl_i{R:Rts}{a:Int}(b:Qfu R a true=0):∃ i:Nat,a=((i+1:Nat):Int)/\i<32/\i∈Zv R:=by
 rcases hdlE_0 b with ⟨_,k⟩ | k
 ·cases k
 ·exact k
theorem collect_c(H:QG h BL)(b:h.seq+256<=4294967294)(a:¬ h.dead=true):XF h=some ((QdI 0 300 (cntH h h.since) ⟨0,false,0⟩).1,(QdI 0 300 (cntH h h.since) ⟨0,false,0⟩).2,0):=by refine Gd.eq ?_;unfold XF;refine .neg a ?_;have:=full_c (H.cnt h.since ⟨h.stats.allocated,h.stats.objects,w64 (h.stats.collections+1),h.stats.steps,h.stats.rounds,h.stats.condemned,h.stats.copied,h.stats.entries,h.stats.work⟩ h.dead) (by show h.seq+256<=_;omega);exact .call this (.some rfl)
set_option maxHeartbeats 1000000 in
theorem do28_c(H:QG h BL)(N:h.seq+257<=4294967294){o:AOp}(M:OpI o):QbB h o=some (doR h o):=by
 refine Gd.eq ?_;unfold QbB doR;have no:∀ e,Qt h e=some (h,⟨e,0⟩):=λ_=>rfl;have b:∀ {K:Option (Hp×Ans)},(o.code<1\/10<o.code)->Gd (λx=>x=(h,⟨if h.dead=true/\¬ o.code=0 then 19 else 20,0⟩)) (if h.dead=true then
   (if o.code=0 then((Qt h 20).bind λy=>some ((y.1,y.2))) else(Qt h 19).bind λz=>some ((z.1,z.2)))
   else(Qt h 20).bind λA=>some ((A.1,A.2))):=λ_=>by
  refine .ite (λk=>.ite (λj=>?_) λj=>?_) λk=>?_
  ·exact .call (no 20) (.some (by rw[if_neg λq=>q.2 j]))
  ·exact .call (no 19) (.some (by rw[if_pos ⟨k,j⟩]))
  ·exact .call (no 20) (.some (by rw[if_neg λq=>k q.1]))
 refine .ite (λk=>?_) λv=>.ite (λk=>?_) λj=>?_
 ·have k:o.code<1:=k;rw[if_pos (.inl k)];exact b (K:=none) (.inl k)
 ·have k:10<o.code:=k;rw[if_pos (.inr k)];exact b (K:=none) (.inr k)
 have v:¬ o.code<1:=v;have j:¬ 10<o.code:=j;rw[if_neg Oo];refine .ite (λf=>?_) λf=>?_
 ·rw[if_pos f];exact .call (no 19) (.some rfl)
 have f:¬ h.dead=true:=f;rw[if_neg f];refine .ite (λk=>?_) λk=>?_
 ·rw[if_pos k];exact .call (alcD_c H N f o) (.some rfl)
 rw[if_neg k];refine .ite (λl=>?_) λl=>?_
 ·rw[if_pos l];exact .call (collect_c H Oo f) (.some rfl)
 rw[if_neg l];refine .ite (λc=>?_) λc=>?_
 ·rw[if_pos c];have:Xb h=some (sumW h.belts.flatten):=by unfold Xb;rw[words11_c H.bsz H.wd];rfl
  exact .call this (.some rfl)
 rw[if_neg c];refine .ite (λm=>?_) λm=>?_
 ·rw[if_pos m];refine .call (Qc1 H.rts _ _) (.ite (λa=>?_) λa=>?_)
  ·have a:Qfu h.roots o.a false=0:=a;rw[if_pos a];refine .call (Qc1 H.rts _ _) (.ite (λg=>?_) λg=>?_)
   ·have g:Qfu h.roots o.b false=0:=g;rw[if_pos g];obtain ⟨_,_,_,F,G⟩:=wrd_ref H a;obtain ⟨_,_,_,I,J⟩:=wrd_ref H g;refine .call (QdK H.rts ⟨F,G⟩) (.call (QdK H.rts ⟨I,J⟩) ?_);have B:JL (decide (QdH h.roots o.a=QdH h.roots o.b))=some (if QdH h.roots o.a=QdH h.roots o.b then 1 else 0):=by
     unfold JL;by_cases e:QdH h.roots o.a=QdH h.roots o.b
     ·rw[if_pos (decide_eq_true e),if_pos e]
     ·rw[if_neg (by simpa using e),if_neg e]
    exact .call B (.some rfl)
   ·have g:¬ Qfu h.roots o.b false=0:=g;rw[if_neg g];exact .some rfl
  ·have a:¬ Qfu h.roots o.a false=0:=a;rw[if_neg a];exact .some rfl
 rw[if_neg m];refine .call (Qc1 H.rts _ _) (.ite (λa=>?_) λa=>?_)
 ·have a:Qfu h.roots o.a true=0:=a;rw[if_pos a];obtain ⟨i,u,L,w⟩:=hdl_i a;obtain ⟨x,p,r,d,X⟩:=root_x H w;have C:QdH h.roots o.a=QD h.roots i:=by rw[u];exact wrd_i i _
  have D:=X.lt;have O:=X.e;have E:=X.pos;refine .ite (λs=>?_) λs=>?_
  ·rw[if_pos s];refine .call (Qb1 H) ?_;have:=drop20_c H.rts L w;rw[<- u]at this;refine .call this (.some ?_);rw[u,show ((i+1:Nat):Int)-1=(i:Int) by omega,Wd];rfl
  rw[if_neg s];refine .ite (λt=>?_) λt=>?_
  ·rw[if_pos t];refine .call (QdK H.rts Oo) ?_;rw[C,Qd (n:=QD h.roots i) Oo,Qd (n:=QD h.roots i-1) Oo];refine .call (look_c H.sp.ok.shp (Ze H.sp.ok.fm) H.sp.w (by unfold I64;omega)) ?_;rw[X.look];dsimp only;rw[Qd (n:=256*(r:Int)) Oo,Qd Oo];exact .some rfl
  rw[if_neg t];refine .call (fld_c H f M a (by
   have k:¬ o.code=1:=k
   have l:¬ o.code=8:=l
   have c:¬ o.code=10:=c
   have m:¬ o.code=6:=m
   have s:¬ o.code=7:=s
   have t:¬ o.code=9:=t
   omega)) (.some rfl)
 ·have a:¬ Qfu h.roots o.a true=0:=a;rw[if_neg a];exact .some rfl
theorem rnd_out(H:QG h BL)(f:h.seq+256<=4294967294):OpOut h ((QdI 0 300 (cntH h h.since) ⟨0,false,0⟩).1,⟨0,0⟩):=by obtain ⟨b,c,d,e,a⟩:=rnd_inv (H.cnt h.since ⟨h.stats.allocated,h.stats.objects,w64 (h.stats.collections+1),h.stats.steps,h.stats.rounds,h.stats.condemned,h.stats.copied,h.stats.entries,h.stats.work⟩ h.dead) (by show h.seq+256<=_;omega) 0;have a:(QdI 0 300 (cntH h h.since) ⟨0,false,0⟩).1.seq<=h.seq+256:=a;exact ⟨b,c,d,e,by show (QdI 0 300 (cntH h h.since) ⟨0,false,0⟩).1.seq<=_;omega⟩
theorem do_ok(H:QG h BL)(C:h.seq+257<=4294967294){o:AOp}:(doR h o).2.err=18\/OpOut h (doR h o):=by
 have e:=λa=>OpOut.same H a;unfold doR;split
 ·exact .inr (e _)
 split
 ·exact .inr (e _)
 rename_i hd;split
 ·exact alcD_ok H C hd _ _
 split
 ·exact .inr (rnd_out H Oo)
 split
 ·exact .inr (e _)
 split
 ·split
  ·split
   ·exact .inr (e _)
   ·exact .inr (e _)
  ·exact .inr (e _)
 split
 ·rename_i ha;obtain ⟨i,q,y,z⟩:=hdl_i ha;obtain ⟨x,p,r,d,X⟩:=root_x H z;have s:QdH h.roots o.a=QD h.roots i:=by rw[q];exact wrd_i i _
  have t:=X.lt;right;split
  ·rw[q,show ((i+1:Nat):Int)-1=(i:Int) by omega,Wd];exact ⟨⟨BL,H.dropH y _ _ _⟩,rfl,rfl,Vo _,by show h.seq<=_;omega⟩
  split
  ·exact e _
  ·unfold fldD;split
   ·rename_i h0;unfold plcD at h0 ⊢;rw[s]at h0 ⊢;split
    ·exact e _
    split
    ·rename_i k2;rw[decide_eq_true (.inl k2)]at h0 ⊢;split
     ·exact e _
     split
     ·exact e _
     ·rename_i hw hf;obtain ⟨j,A,B,_⟩:=frsI_some H.rts hf;have u:∀ w,(takE h.roots w).1=takR h.roots j w:=λw=>by unfold takE;rw[A]
      have b:=X.plc o.b true;have c:¬ (o.b<0\/(if true then(r:Int) else d)<=o.b):=λk=>by rw[b,if_pos k]at h0;cases h0
      have F:=X.fld c;have g:fldK r o.b true<=r:=by unfold fldK;simp at c ⊢;omega
      rw[if_neg c]at b;have l:=H.refs _ (F.slot g);have v:=QfH H.sp.w ((adr (szS h.space) x.fr (p+fldK r o.b true):Nat):Int);rw[b]at hw ⊢;rcases l with l | ⟨m,D,E,n⟩
      ·exact absurd l hw
      ·refine ⟨⟨BL,?_⟩,rfl,rfl,Vo _,by show h.seq<=_;omega⟩;rw[u];exact H.take B m v n _ _ _
    split
    ·rename_i k2 k3;rw[decide_eq_true (.inr k3)]at h0 ⊢;split
     ·rename_i hc;by_cases f:I64 o.b
      ·exact ⟨⟨BL,(X.wref hd f h0 hc).2⟩,rfl,rfl,Vo _,by show h.seq<=_;omega⟩
      ·exfalso;have b:=X.plc o.b true;have c:¬ (o.b<0\/(if true then(r:Int) else d)<=o.b):=λk=>by rw[b,if_pos k]at h0;cases h0
       have:=X.pos;simp at c;unfold I64 at f;omega
     ·exact e _
    ·rename_i k4 k2 k3;rw[decide_eq_false (by rintro (k | k);exact k2 k;exact k3 k)]at h0 ⊢;have f:I64 o.b:=by
      have b:=X.plc o.b false;have c:¬ (o.b<0\/(if false then(r:Int) else d)<=o.b):=λk=>by rw[b,if_pos k]at h0;cases h0
      have:=X.pos;simp at c;unfold I64;omega
     exact ⟨⟨BL,(X.wdat hd f h0 (wu_u _)).2⟩,rfl,rfl,Vo _,by show h.seq<=_;omega⟩
   ·exact e _
 ·exact .inr (e _)
end
structure GOk(g:Gra):Prop where
 u:g.used.length=32
 v:g.roots.length=32
 n:g.nodes.length<=1000000
 t:∀ (i:Nat),g.used[i]?=some true->∃ k:Nat,g.roots[i]?=some (k:Int)/\k<g.nodes.length
 r:∀ nd∈g.nodes,nd.refs.length<=15/\nd.data.length<=32/\(∀ v∈nd.refs,v = -1\/(0<=v/\v<g.nodes.length))/\∀ x∈nd.data,U64 x
inductive Rch(g:Gra):Nat->Prop
 | root {i v:Nat}:g.used[i]?=some true->g.roots[i]?=some (v:Int)->Rch g v
 | edge {u v:Nat} {nd:Nod}:Rch g u->g.nodes[u]?=some nd->(v:Int)∈nd.refs->Rch g v
theorem GOk.rlt{g:Gra}(h:GOk g){v:Nat}(r:Rch g v):v<g.nodes.length:=by
 cases r with
 | root h1 h2 =>obtain ⟨k,e,a⟩:=h.t _ h1;rw[h2]at e;injection e with e;omega
 | edge h1 h2 h3 =>have:=(h.r _ (Wp h2)).2.2.1 _ h3;omega
structure MrkI(g:Gra)(bs:List Bool):Prop where
 len:bs.length=g.nodes.length
 snd:∀ v,bs[v]?=some true->Rch g v
theorem MrkI.set{g:Gra}{b:List Bool}(h:MrkI g b){v:Nat}(c:Rch g v):MrkI g (b.set v true):=by
 refine ⟨by rw[Wv];exact h.len,λw a=>?_⟩;rw[Ul]at a;split at a
 ·rename_i e;rw[<- e];exact c
 ·exact h.snd w a
def MrkLe(a b:List Bool):Prop:=∀ v:Nat,a[v]?=some true->b[v]?=some true
theorem MrkLe.set(a:List Bool)(v:Nat):MrkLe a (a.set v true):=λw b=>by
 rw[Ul];obtain ⟨c,_⟩:=Wq.1 b;split
 ·rename_i e;rw[if_pos Oo]
 ·exact b
theorem MrkLe.trans{a b c:List Bool}(h:MrkLe a b)(k:MrkLe b c):MrkLe a c:=λv d=>k v (h v d)
def RootsIn(g:Gra)(a:List Bool):Prop:=∀ (i v:Nat),g.used[i]?=some true->g.roots[i]?=some (v:Int)->a[v]?=some true
def NodeIn(a:List Bool)(i:Nat)(nd:Nod)(k:Nat):Prop:=a[i]?=some true->∀ j (h:j<nd.refs.length),j<k->∀ v:Nat,nd.refs[j]=(v:Int)->a[v]?=some true
def rchL(g:Gra):List Int:=((List.range g.nodes.length).filter λv=>bP (Rch g v)).map λ(v:Nat)=>(v:Int)
theorem mark_set{a:List Bool}{v:Nat}(b:v<a.length)(h:¬ a[v]=true):a.count true<(a.set v true).count true:=by
 rw[List.count_set b];have:(a[v] == true)=false:=by simpa using h
 simp[this]
theorem reach_c{g:Gra}(h:GOk g):JK g=some (rchL g):=by
 have hu:=h.u;have u:=h.v;have hn:=h.n;refine Gd.eq ?_;unfold JK;refine .pos Oo ?_;refine Gd.bind (P:=λr=>MrkI g r/\RootsIn g r) ?_ λr B=>?_
 ·refine Gd.for g.used.length (λ(t:List Bool) i=>(t,i)) (λi t=>MrkI g t/\∀ (j v:Nat),j<i->g.used[j]?=some true->g.roots[j]?=some (v:Int)->t[v]?=some true) (List.replicate g.nodes.length false) (by rw[Wd]) (λ_ _=>rfl) Oo ⟨⟨Ve,λv u=>by rw[VR]at u;split at u <;> cases u⟩,λj v A=>by omega⟩ (λi f t m=>?_) (λt m=>⟨m.1,λi v a o=>m.2 i v (Wq.1 a).1 a o⟩);refine .atN f (.ite (λk=>?_) λk=>.some (.inl ⟨t,rfl,m.1,λj v A a o=>?_⟩))
  ·have k:g.used[i]=true:=k;have J:g.used[i]?=some true:=by rw[Wa f,k]
   obtain ⟨w,e,hw⟩:=h.t i J;obtain ⟨hr,er⟩:=Wq.1 e;refine .atN hr ?_;rw[er];have K:w<t.length:=by rw[m.1.len];exact hw
   refine .atN K (.some (.inl ⟨t.set w true,by rw[Wd],m.1.set (.root J e),λj v A a o=>?_⟩));by_cases H:j=i
   ·subst H;rw[e]at o;injection o with o;have:w=v:=by omega
    subst this;rw[WD K]
   ·exact MrkLe.set t w v (m.2 j v Oo a o)
  ·have k:¬ g.used[i]=true:=k;by_cases H:j=i
   ·subst H;rw[Wa f]at a;injection a with a;exact absurd a k
   ·exact m.2 j v Oo a o
 refine Gd.bind (P:=λr=>MrkI g r/\∀ v,Rch g v->r[v]?=some true) ?_ λr B=>?_
 ·refine Gd.loop (λ(s:List Bool×Bool)=>MrkI g s.1/\RootsIn g s.1/\(s.2=false->∀ (i:Nat) (f:i<g.nodes.length),NodeIn s.1 i g.nodes[i] g.nodes[i].refs.length)) _ (λs=>2*(g.nodes.length-s.1.count true)+(if s.2=true then 1 else 0)) ⟨B.1,B.2,λe=>by cases e⟩ ?_;rintro ⟨c,O⟩ ⟨p,y,hb3⟩;dsimp only at p y hb3;refine .ite (λn=>?_) λn=>.out ⟨p,λv u=>?_⟩
  ·have n:O=true:=n;subst n;refine Gd.for g.nodes.length (λ(t:List Bool×Bool) i=>(t.1,t.2,i)) (λi t=>MrkI g t.1/\MrkLe c t.1/\(t.2=false->t.1=c/\∀ (k:Nat) (hk:k<g.nodes.length),k<i->NodeIn c k g.nodes[k] g.nodes[k].refs.length)/\(t.2=true->c.count true<t.1.count true)) (c,false) rfl (λ_ _=>rfl) Oo ⟨p,λ_ h=>h,λ_=>⟨rfl,λk _ hk=>by omega⟩,λe=>by cases e⟩ (λi f t m=>?_) (λt m=>?_)
   ·obtain ⟨S,Y,Q,Z⟩:=m;have ab:=h.r _ (Wc f);refine Gd.bind (P:=λb:List Bool×Bool=>MrkI g b.1/\MrkLe c b.1/\(b.2=false->b.1=c/\t.2=false/\NodeIn c i g.nodes[i] g.nodes[i].refs.length)/\(b.2=true->c.count true<b.1.count true)) ?_ λb z=>.some (.inl ⟨b,rfl,z.1,z.2.1,λe=>⟨(z.2.2.1 e).1,λk hk ad=>?_⟩,z.2.2.2⟩)
    ·refine .atN f ?_;refine Gd.for g.nodes[i].refs.length (λ(t:List Bool×Bool) i=>(t.1,t.2,i)) (λj b=>MrkI g b.1/\MrkLe c b.1/\(b.2=false->b.1=c/\t.2=false/\NodeIn c i g.nodes[i] j)/\(b.2=true->c.count true<b.1.count true)) t rfl (λ_ _=>rfl) Oo ⟨S,Y,λe=>⟨(Q e).1,e,λ_ j _ A=>by omega⟩,Z⟩ (λj A b z=>?_) (λb z=>z);obtain ⟨G,T,b3,U⟩:=z;have D:i<b.1.length:=by rw[G.len];exact f
     have x:(¬ b.1[i]=true\/(∀ v:Nat,g.nodes[i].refs[j]=(v:Int)->b.1[v]?=some true))->(b.2=false->b.1=c/\t.2=false/\NodeIn c i g.nodes[i] (j+1)):=λhk e=>by
      obtain ⟨I,R,e3⟩:=b3 e;refine ⟨I,R,λd j' aa ae v u=>?_⟩;by_cases H:j'=j
      ·subst H;rcases hk with hk | hk
       ·exfalso;rw[<- I,Wa D]at d;injection d with d;exact hk d
       ·rw[<- I];exact hk v u
      ·exact e3 d j' aa Oo v u
     refine .atN A (.atN D (.ite (λL=>?_) λL=>.some (.inl ⟨b,rfl,G,T,x (.inl L),U⟩)));have L:b.1[i]=true:=L;have V:Rch g i:=G.snd i (by rw[Wa D,L]);refine .ite (λM=>?_) λM=>.some (.inl ⟨b,rfl,G,T,x (.inr λv u=>by
      have M:¬ 0<=g.nodes[i].refs[j]:=M
      omega),U⟩)
     have M:0<=g.nodes[i].refs[j]:=M;obtain ⟨w,ew⟩:∃ w:Nat,g.nodes[i].refs[j]=(w:Int):=⟨g.nodes[i].refs[j].toNat,Oo⟩;have N:Rch g w:=.edge V (Wa f) (ew▸Wc A);have E:w<b.1.length:=by rw[G.len];exact h.rlt N
     rw[ew];refine .atN E (.ite (λF=>.some (.inl ⟨b,rfl,G,T,x (.inr λv u=>?_),U⟩)) λF=>.some (.inl ⟨(b.1.set w true,true),by rw[Wd],G.set N,T.trans (.set _ _),λe=>(by cases e),λ_=>?_⟩))
     ·have F:b.1[w]=true:=F;have:v=w:=by omega
      rw[this,Wa E,F]
     ·have F:¬ b.1[w]=true:=F;have a:=mark_set E F;show c.count true<(b.1.set w true).count true;by_cases e:b.2=true
      ·have:=U e;omega
      ·rw[(b3 (by simpa using e)).1]at a ⊢;exact a
    ·obtain ⟨I,R,e3⟩:=z.2.2.1 e;by_cases ek:k=i
     ·subst ek;exact e3
     ·exact (Q R).2 k hk Oo
   ·obtain ⟨S,Y,Q,Z⟩:=m;refine ⟨⟨S,λi v a o=>Y v (y i v a o),λe k hk=>?_⟩,?_⟩
    ·obtain ⟨I,R⟩:=Q e;rw[I];exact R k hk hk
    ·show 2*(g.nodes.length-t.1.count true)+_<2*(g.nodes.length-c.count true)+_;have hc:t.1.count true<=g.nodes.length:=by rw[<- S.len];exact List.count_le_length
     by_cases e:t.2=true
     ·have:=Z e;simp only[e,if_true];omega
     ·rw[(Q (by simpa using e)).1];simp only[e,if_true];simp
  ·have n:O=false:=by simpa using n
   have W:=hb3 n;induction u with
   | root a o=>exact y _ _ a o
   | edge a o h3 ih =>obtain ⟨hl,e⟩:=Wq.1 o;subst e;obtain ⟨j,A,H⟩:=UB h3;exact W _ hl ih j A A _ H
 obtain ⟨p,y⟩:=B;have X:=p.len;have C:∀ (i:Nat) (f:i<r.length),r[i]=true<->Rch g i:=λi f=>⟨λk=>p.snd i (by rw[Wa f,k]),λk=>by
  have:=y i k
  rw[Wa f]at this
  injection this⟩
 refine Gd.bind (P:=λb=>b=rchL g) ?_ λb z=>.some z;refine Gd.for r.length (λ(t:List Int) i=>(t,i)) (λi t=>t.length<=i/\t=((List.range i).filter λv=>bP (Rch g v)).map λ(v:Nat)=>(v:Int)) [] rfl (λ_ _=>rfl) Oo ⟨Os,rfl⟩ (λi f t m=>?_) (λt m=>by rw[m.2,X];rfl);have ac:=m.1;rw[Ua,VA,WH,<- m.2];refine .atN f (.ite (λk=>.pos (X9 (l:=t) Oo Oo) (.some (.inl ⟨t++[(i:Int)],rfl,by rw[We,WK];omega,?_⟩))) λk=>.some (.inl ⟨t,rfl,Oo,?_⟩))
 ·have k:r[i]=true:=k;simp[VM,J6 ((C i f).1 k)]
 ·have k:¬ r[i]=true:=k;simp[VM,Qdg (λq=>k ((C i f).2 q))]
def nodW(nd:Nod):Int:=1+(nd.refs.length:Int)+(nd.data.length:Int)
def livW(g:Gra):Int:=((rchL g).map λv=>((g.nodes[v.toNat]?).map nodW).getD 0).sum
theorem live29_c{g:Gra}(h:GOk g):Qan g=some (livW g):=by
 have m:=h.n;have f:(rchL g).length<=g.nodes.length:=by unfold rchL;rw[Wb];have:=W8 (λv=>bP (Rch g v)) (List.range g.nodes.length);rw[WV]at this;exact this
 have a:∀ i (d:i<(rchL g).length),∃ v:Nat,(rchL g)[i]=(v:Int)/\v<g.nodes.length:=λi d=>by have:=Wc d;obtain ⟨v,c,e⟩:=Wk.1 (show (rchL g)[i]∈((List.range g.nodes.length).filter λv=>bP (Rch g v)).map λ(v:Nat)=>(v:Int) from this);exact ⟨v,e.symm,Wz.1 (WI.1 c).1⟩
 refine Gd.eq ?_;unfold Qan;refine Gd.bind (P:=λb=>b=livW g) ?_ λb l=>.some l;refine .call (reach_c h) ?_;refine Gd.fold (rchL g) (λ(t:Int) i=>(t,i)) (λt v=>t+((g.nodes[v.toNat]?).map nodW).getD 0) 0 (λi t=>0<=t/\t<=48*(i:Int)) rfl (λ_ _=>rfl) Oo ⟨Vo _,Oo⟩ (λi d t o=>?_) (λ_=>?_)
 ·obtain ⟨v,e,c⟩:=a i d;have j:=h.r _ (Wc c);rw[e,Wd,Wa c];have k:((some g.nodes[v]).map nodW).getD 0=1+(g.nodes[v].refs.length:Int)+(g.nodes[v].data.length:Int):=rfl;rw[k];refine ⟨⟨Oo,Oo⟩,.atN d ?_⟩;rw[e];refine .atN c (.some ?_);dsimp only;rw[Qd (n:=1+(g.nodes[v].refs.length:Int)) Oo,Qd (n:=1+(g.nodes[v].refs.length:Int)+(g.nodes[v].data.length:Int)) Oo,Qd (n:=t+_) Oo]
 ·show List.foldl _ 0 (rchL g)=livW g;unfold livW;rw[List.sum_eq_foldl,List.foldl_map]
theorem copy29_c{g:Gra}(h:GOk g):Qao g=some g:=by
 have f:=h.u;have j:=h.v;have k:=h.n;refine Gd.eq ?_;unfold Qao;refine .pos Oo (.pos Oo ?_);refine Gd.bind (P:=λb=>b=g.nodes) ?_ λb e=>.some (by rw[e]);refine Gd.for g.nodes.length (λ(t:List Nod) i=>(t,i)) (λi t=>t=g.nodes.take i) [] rfl (λ_ _=>rfl) Oo rfl (λi c t a=>?_) (λt a=>by rw[a,WR]);have d:=h.r _ (Wc c);have l:t.length<=i:=by rw[a,Wi];omega
 refine .atN c (.pos Oo (.pos Oo (.pos (show ((t.length:Int)+1)*48<=140737488355328/\(t.length:Int)+1<=9223372036854775807 by omega) (.some (.inl ⟨t++[g.nodes[i]],rfl,?_⟩)))));rw[a,V9 c]
def frsG(g:Gra):Option Nat:=(List.range g.used.length).find? λi=>g.used[i]? == some false
def frsV:Option Nat->Int
 | some i=>((i+1:Nat):Int)
 | none=>0
theorem free29_c{g:Gra}(h:GOk g):Jp g=some (frsV (frsG g)):=by
 have l:=h.u;refine Gd.eq ?_;unfold Jp;refine Gd.bndR (P:=λz=>(z = .inl ()/\frsG g=none)\/(∃ i,z = .inr ((i+1:Nat):Int)/\frsG g=some i)) ?_ (λ_ a=>?_) (λr a=>?_)
 ·refine Gd.find g.used (λx=>x=false) Oo (λi b c=>?_) (λc=>.inl ⟨rfl,?_⟩)
  ·refine .atN b (.ite (λk=>.some (.inl ⟨by simp[show g.used[i]=true from k],rfl⟩)) λk=>?_);have k:¬ g.used[i]=true:=k;have d:g.used[i]=false:=by simpa using k
   refine .some (.inr ⟨d,_,rfl,.inr ⟨i,by rw[Qd Oo];rfl,?_⟩⟩);unfold frsG;rw[YF];refine ⟨by simp[Wa b,d],Wz.2 b,λj f=>?_⟩;have:=c j Oo f;simp[Wa (show j<g.used.length by omega),this]
  ·unfold frsG;rw[U9];intro i b;rw[Wz]at b;have:=c _ (Wc b);simp[Wa b,this]
 ·rcases a with ⟨_,a⟩ | ⟨i,a,_⟩
  ·exact .some (by rw[a];rfl)
  ·cases a
 ·rcases a with ⟨a,_⟩ | ⟨i,a,e⟩
  ·cases a
  ·injection a with a;rw[e,a];rfl
theorem frsG_lt{g:Gra}(h:GOk g){i:Nat}(e:frsG g=some i):i<32:=by have:=Wz.1 (Ub e);have:=h.u;omega
def Qgd(g:Gra)(a:Int)(nz:Bool):Int:=if a=0 then(if nz=true then 16 else 0) else if a<0\/32<a then 14 else if g.used[(a-1).toNat]?=some true then 0 else 14
theorem Qc0{g:Gra}(h:GOk g)(a:Int)(nz:Bool):Zi g a nz=some (Qgd g a nz):=by
 have d:=h.u;refine Gd.eq ?_;unfold Zi Qgd;refine .ite (λb=>?_) λb=>?_
 ·rw[if_pos b];exact .ite (λk=>.some (by rw[if_pos k])) λk=>.some (by rw[if_neg k])
 ·rw[if_neg b];refine .ite (λk=>.some (by rw[if_pos (.inl k)])) λe=>.ite (λk=>.some (by rw[if_pos (.inr k)])) λf=>?_;rw[if_neg Oo,Qd Oo];obtain ⟨i,rfl⟩:∃ i:Nat,a=((i+1:Nat):Int):=⟨(a-1).toNat,Oo⟩;have c:i<g.used.length:=by omega
  rw[show ((i+1:Nat):Int)-1=(i:Int) by omega,Wd,Wa c];refine .atN c (.ite (λk=>.some (by rw[if_pos (by rw[show g.used[i]=true from k])])) λk=>.some (by rw[if_neg (by simpa using k)]))
theorem hdlG_0{g:Gra}{a:Int}{nz:Bool}(h:Qgd g a nz=0):(a=0/\nz=false)\/∃ i:Nat,a=((i+1:Nat):Int)/\i<32/\g.used[i]?=some true:=by
 unfold Qgd at h;split at h
 ·rename_i e;split at h
  ·cases h
  ·rename_i k;exact .inl ⟨e,by simpa using k⟩
 ·split at h
  ·cases h
  ·split at h
   ·rename_i k;exact .inr ⟨(a-1).toNat,Oo,Oo,k⟩
   ·cases h
def nodE(g:Gra)(a:Int):Int:=if a=0 then -1 else(g.roots[(a-1).toNat]?).getD 0
theorem QcZ{g:Gra}(h:GOk g){a:Int}(e:0<=a/\a<=32):Zh g a=some (nodE g a):=by
 have d:=h.v;refine Gd.eq ?_;unfold Zh nodE;refine .ite (λb=>.some (by rw[if_pos b])) λb=>?_;rw[if_neg b,Qd Oo];obtain ⟨i,rfl⟩:∃ i:Nat,a=((i+1:Nat):Int):=⟨(a-1).toNat,Oo⟩;have c:i<g.roots.length:=by omega
 rw[show ((i+1:Nat):Int)-1=(i:Int) by omega,Wd];refine .atN c (.some ?_);rw[Wa c];rfl
theorem nodE_i{g:Gra}(h:GOk g){i:Nat}(b:g.used[i]?=some true):∃ k:Nat,nodE g ((i+1:Nat):Int)=(k:Int)/\k<g.nodes.length:=by obtain ⟨k,e,a⟩:=h.t i b;refine ⟨k,?_,a⟩;unfold nodE;rw[if_neg Oo,show ((i+1:Nat):Int)-1=(i:Int) by omega,Wd,e];rfl
theorem Qfk{g:Gra}(h:GOk g){a:Int}(c:Qgd g a false=0):(nodE g a = -1\/(0<=nodE g a/\nodE g a<g.nodes.length))/\0<=a/\a<=32:=by
 rcases hdlG_0 c with ⟨rfl,_⟩ | ⟨i,rfl,f,b⟩
 ·exact ⟨.inl (by unfold nodE;rw[if_pos rfl]),Oo,Oo⟩
 ·obtain ⟨k,e,d⟩:=nodE_i h b;exact ⟨.inr (by rw[e];omega),Oo,Oo⟩
def rotG(g:Gra)(v:Int):Option Nat->Gra×Ans
 | none=>(g,⟨15,0⟩)
 | some i=>(⟨g.nodes,g.used.set i true,g.roots.set i v⟩,⟨0,((i+1:Nat):Int)⟩)
def newG(g:Gra)(a b:Int):Option Nat->Gra×Ans
 | none=>(g,⟨15,0⟩)
 | some i=>(⟨g.nodes++[⟨List.replicate a.toNat (-1),List.replicate b.toNat 0⟩],g.used.set i true,g.roots.set i (g.nodes.length:Int)⟩,⟨0,((i+1:Nat):Int)⟩)
def nodG(g:Gra)(o:AOp)(n:Nat)(nd:Nod):Gra×Ans := if o.code=7 then(⟨g.nodes,g.used.set (o.a-1).toNat false,g.roots.set (o.a-1).toNat (-1)⟩,⟨0,0⟩) else if o.code=9 then(g,⟨0,wu (256*(nd.refs.length:Int)+(nd.data.length:Int))⟩) else if o.b<0\/(if o.code=2\/o.code=3 then(nd.refs.length:Int) else(nd.data.length:Int))<=o.b then(g,⟨17,0⟩) else if o.code=4 then(g,⟨0,(nd.data[o.b.toNat]?).getD 0⟩) else if o.code=5 then(⟨g.nodes.set n ⟨nd.refs,nd.data.set o.b.toNat (wu o.c_)⟩,g.used,g.roots⟩,⟨0,0⟩) else if o.code=3 then(if Qgd g o.c_ false=0 then(⟨g.nodes.set n ⟨nd.refs.set o.b.toNat (nodE g o.c_),nd.data⟩,g.used,g.roots⟩,⟨0,0⟩) else(g,⟨Qgd g o.c_ false,0⟩)) else if (nd.refs[o.b.toNat]?).getD 0 = -1 then(g,⟨0,0⟩) else rotG g ((nd.refs[o.b.toNat]?).getD 0) (frsG g)
def doG(g:Gra)(o:AOp):Gra×Ans := if o.code=1 then(if o.a<0\/15<o.a\/o.b<0\/32<o.b then(g,⟨13,0⟩) else newG g o.a o.b (frsG g)) else if o.code=8 then(g,⟨0,0⟩) else if o.code=10 then(g,⟨0,wu (livW g)⟩) else if o.code=6 then(if Qgd g o.a false=0 then(if Qgd g o.b false=0 then(g,⟨0,if nodE g o.a=nodE g o.b then 1 else 0⟩) else(g,⟨Qgd g o.b false,0⟩)) else(g,⟨Qgd g o.a false,0⟩)) else if o.code=7\/o.code=9\/o.code=2\/o.code=3\/o.code=4\/o.code=5 then(if Qgd g o.a true=0 then nodG g o (nodE g o.a).toNat ((g.nodes[(nodE g o.a).toNat]?).getD ⟨[],[]⟩) else(g,⟨Qgd g o.a true,0⟩)) else(g,⟨20,0⟩)
set_option maxHeartbeats 1000000 in
theorem do29_c{g:Gra}(h:GOk g)(o:AOp):QbA g o=some (doG g o):=by
  have Q:=h.u;have R:=h.v;have S:=h.n;have a:∀ e,Qx g e=some (g,⟨e,0⟩):=λ_=>rfl;refine Gd.eq ?_;unfold QbA doG;refine .call (copy29_c h) ?_;refine Gd.bndR (P:=λz=>(z = .inl ()/\(o.code=7\/o.code=9\/o.code=2\/o.code=3\/o.code=4\/o.code=5))\/z = .inr (doG g o)) ?_ (λ_ hP=>?_) (λr hP=>?_)
  · refine .ite (λp=>?_) λp=>?_
    · have p:o.code=1:=p
      have c:doG g o=if o.a<0\/15<o.a\/o.b<0\/32<o.b then(g,⟨13,0⟩)
        else newG g o.a o.b (frsG g):=by
        unfold doG;rw[if_pos p]
      refine .ite (λk=>.call (a 13) (.some (.inr (by rw[c,if_pos (.inl k)])))) λU=>?_
      refine .ite (λk=>.call (a 13) (.some (.inr (by rw[c,if_pos (.inr (.inl k))])))) λF=>?_
      refine .ite (λk=>.call (a 13) (.some (.inr (by rw[c,if_pos (.inr (.inr (.inl k)))])))) λD=>?_
      refine .ite (λk=>.call (a 13) (.some (.inr (by rw[c,if_pos (.inr (.inr (.inr k)))])))) λV=>?_
      rw[if_neg Oo]at c
      refine .call (free29_c h) ?_
      cases e:frsG g with
      | none =>
        rw[e]at c
        exact .pos rfl (.call (a 15) (.some (.inr (by rw[c];rfl))))
      | some i =>
        rw[e]at c
        have K:=frsG_lt h e
        have H:frsV (some i)=((i+1:Nat):Int):=rfl
        rw[H]
        refine .neg (by show ¬ ((i+1:Nat):Int)=0;omega) (.pos Oo ?_)
        refine Gd.bind (P:=λb:List Int=>b=List.replicate o.a.toNat (-1)) ?_ λb q=>?_
        · obtain ⟨n,C⟩:∃ n:Nat,o.a=(n:Int):=⟨o.a.toNat,Oo⟩
          rw[C,Wd]
          refine Gd.for n (λ(t:List Int) i=>(t,i)) (λi t=>t=List.replicate i (-1)) [] rfl (λ_ _=>rfl) Oo rfl (λj O t G=>?_) (λt G=>by rw[G])
          have T:t.length=j:=by rw[G,Ve]
          refine .pos (X9 (l:=t) Oo Oo) (.some (.inl ⟨t++[-1],rfl,?_⟩))
          rw[G,Ys]
        · subst q
          refine .pos Oo ?_
          rw[Qd Oo,show ((i+1:Nat):Int)-1=(i:Int) by omega]
          refine .atN Oo (.atN Oo (.some (.inr ?_)))
          rw[c]
          unfold newG
          dsimp only
          rw[We,WK,Qd Oo,Wd,Xv (n:=((i+1:Nat):Int)) Oo,show ((g.nodes.length+1:Nat):Int)-1=(g.nodes.length:Int) by omega]
    have p:¬ o.code=1:=p
    refine .ite (λE=>.some (.inr (by unfold doG;rw[if_neg p,if_pos E]))) λE=>?_
    refine .ite (λw=>.call (live29_c h) (.some (.inr (by unfold doG;rw[if_neg p,if_neg E,if_pos w])))) λw=>?_
    refine .ite (λI=>?_) λI=>?_
    · have c:doG g o=if Qgd g o.a false=0 then
          (if Qgd g o.b false=0 then(g,⟨0,if nodE g o.a=nodE g o.b then 1 else 0⟩) else(g,⟨Qgd g o.b false,0⟩))
         else(g,⟨Qgd g o.a false,0⟩):=by unfold doG;rw[if_neg p,if_neg E,if_neg w,if_pos I]
      refine .call (Qc0 h _ _) (.ite (λd=>?_) λd=>.call (a _) (.some (.inr (by rw[c,if_neg d]))))
      have d:Qgd g o.a false=0:=d
      rw[if_pos d]at c
      refine .call (Qc0 h _ _) (.ite (λq=>?_) λq=>.call (a _) (.some (.inr (by rw[c,if_neg q]))))
      have q:Qgd g o.b false=0:=q
      rw[if_pos q]at c
      refine .call (QcZ h (Qfk h d).2) (.call (QcZ h (Qfk h q).2) ?_)
      exact .ite (λk=>.some (.inr (by rw[c,if_pos k]))) λk=>.some (.inr (by rw[c,if_neg k]))
    refine .ite (λk=>.some (.inl ⟨rfl,.inl k⟩)) λA=>.ite (λk=>.some (.inl ⟨rfl,.inr (.inl k)⟩)) λB=>.ite (λk=>.some (.inl ⟨rfl,.inr (.inr (.inl k))⟩)) λJ=>.ite (λk=>.some (.inl ⟨rfl,.inr (.inr (.inr (.inl k)))⟩)) λv=>.ite (λk=>.some (.inl ⟨rfl,.inr (.inr (.inr (.inr (.inl k))))⟩)) λs=>.ite (λk=>.some (.inl ⟨rfl,.inr (.inr (.inr (.inr (.inr k))))⟩)) λu=>.call (a 20) (.some (.inr ?_))
    unfold doG
    rw[if_neg p,if_neg E,if_neg w,if_neg I,if_neg]
    rintro (k | k | k | k | k | k)
    · exact A k
    · exact B k
    · exact J k
    · exact v k
    · exact s k
    · exact u k
  · rcases hP with ⟨_,y⟩ | hP
    · have c:doG g o=if Qgd g o.a true=0 then nodG g o (nodE g o.a).toNat ((g.nodes[(nodE g o.a).toNat]?).getD ⟨[],[]⟩) else(g,⟨Qgd g o.a true,0⟩):=by
        unfold doG
        rw[if_neg Oo,if_neg Oo,if_neg Oo,if_neg Oo,if_pos y]
      show Gd (λx=>x=doG g o) _
      rw[c]
      refine .call (Qc0 h _ _) (.ite (λd=>?_) λd=>.call (a _) (.some (by rw[if_neg d])))
      have d:Qgd g o.a true=0:=d
      rw[if_pos d]
      obtain ⟨i,ei,K,hui⟩:∃ i:Nat,o.a=((i+1:Nat):Int)/\i<32/\g.used[i]?=some true:=by
        rcases hdlG_0 d with ⟨_,k⟩ | k
        · cases k
        · exact k
      obtain ⟨n,C,f⟩:=nodE_i h hui
      rw[<- ei]at C
      have L:=h.r _ (Wc f)
      refine .call (QcZ h Oo) ?_
      rw[C,Wd,Wa f]
      refine .atN f ?_
      have M:o.a-1=(i:Int):=by omega
      unfold nodG
      refine .ite (λA=>?_) λA=>?_
      · rw[if_pos A,M,Qd Oo,Wd]
        exact .atN Oo (.atN Oo (.some rfl))
      have A:¬ o.code=7:=A
      rw[if_neg A]
      refine .ite (λB=>?_) λB=>?_
      · rw[if_pos B]
        refine .some ?_
        dsimp only[Option.getD_some]
        rw[Qd (n:=256*_) Oo,Qd (n:=256*(g.nodes[n].refs.length:Int)+_) Oo]
      have B:¬ o.code=9:=B
      rw[if_neg B]
      dsimp only[Option.getD_some]
      refine Gd.bind (P:=λb=>b=if o.code=2\/o.code=3 then(g.nodes[n].refs.length:Int) else(g.nodes[n].data.length:Int)) ?_ λb q=>?_
      · refine .ite (λk=>.some (by rw[if_pos (.inl k)])) λJ=>.ite (λk=>.some (by rw[if_pos (.inr k)])) λv=>.some (by rw[if_neg];rintro (k | k);exact J k;exact v k)
      subst q
      refine .ite (λk=>.call (a 17) (.some (by rw[if_pos (.inl k)]))) λF=>.ite (λk=>.call (a 17) (.some (by rw[if_pos (.inr k)]))) λD=>?_
      have F:¬ o.b<0:=F
      rw[if_neg (by rintro (k | k);exact F k;exact D k)]
      obtain ⟨m,em2⟩:∃ m:Nat,o.b=(m:Int):=⟨o.b.toNat,Oo⟩
      rw[em2,Wd]
      rw[em2]at D
      refine .ite (λs=>?_) λs=>?_
      · have s:o.code=4:=s
        rw[if_neg Oo]at D
        rw[if_pos s]
        refine .atN Oo (.some ?_)
        rw[Wa Oo];rfl
      have s:¬ o.code=4:=s
      rw[if_neg s]
      refine .ite (λu=>?_) λu=>?_
      · have u:o.code=5:=u
        rw[if_neg Oo]at D
        rw[if_pos u]
        refine .call (QcZ h Oo) ?_
        rw[C]
        exact .atN f (.atN Oo (.some rfl))
      have u:¬ o.code=5:=u
      rw[if_neg u]
      rw[if_pos Oo]at D
      refine .ite (λv=>?_) λv=>?_
      · rw[if_pos v]
        refine .call (Qc0 h _ _) (.ite (λy=>?_) λy=>.call (a _) (.some (by rw[if_neg y])))
        have y:Qgd g o.c_ false=0:=y
        rw[if_pos y]
        refine .call (QcZ h Oo) ?_
        rw[C]
        refine .atN f (.call (QcZ h (Qfk h y).2) (.atN Oo (.some rfl)))
      have v:¬ o.code=3:=v
      rw[if_neg v]
      refine .atN Oo ?_
      have N:m<g.nodes[n].refs.length:=by omega
      simp only[Wa N,WE]
      refine .ite (λk=>.some (by rw[if_pos k])) λk=>?_
      rw[if_neg k]
      refine .call (free29_c h) ?_
      cases e:frsG g with
      | none=>exact .pos rfl (.call (a 15) (.some rfl))
      | some j =>
        have O:=frsG_lt h e
        have H:frsV (some j)=((j+1:Nat):Int):=rfl
        rw[H]
        refine .neg (by show ¬ ((j+1:Nat):Int)=0;omega) ?_
        rw[Qd Oo,show ((j+1:Nat):Int)-1=(j:Int) by omega]
        refine .atN Oo (.atN Oo (.some ?_))
        unfold rotG
        dsimp only
        rw[Wd,Xv (n:=((j+1:Nat):Int)) Oo]
    · cases hP
  · rcases hP with ⟨hP,_⟩ | hP
    · cases hP
    · injection hP with hP
theorem GOk.rot{g:Gra}(h:GOk g){i:Nat}(d:i<32){v:Int}(f:0<=v/\v<g.nodes.length):GOk ⟨g.nodes,g.used.set i true,g.roots.set i v⟩:=by
 have b:=h.u;have c:=h.v;refine ⟨by show (g.used.set i true).length=32;rw[Wv];exact b,by show (g.roots.set i v).length=32;rw[Wv];exact c,h.n,λj a=>?_,h.r⟩;have a:(g.used.set i true)[j]?=some true:=a;show ∃ k:Nat,(g.roots.set i v)[j]?=some (k:Int)/\k<g.nodes.length;by_cases e:i=j
 ·subst e;exact ⟨v.toNat,by rw[WD Oo];congr 1;omega,Oo⟩
 ·rw[WC e]at a ⊢;exact h.t j a
theorem GOk.node{g:Gra}(h:GOk g){n:Nat}{nd:Nod}(a:nd.refs.length<=15/\nd.data.length<=32/\(∀ v∈nd.refs,v = -1\/(0<=v/\v<g.nodes.length))/\∀ x∈nd.data,U64 x):GOk ⟨g.nodes.set n nd,g.used,g.roots⟩:=by
 refine ⟨h.u,h.v,by show (g.nodes.set n nd).length<=_;rw[Wv];exact h.n,λj b=>?_,λx c=>?_⟩
 ·show ∃ k:Nat,g.roots[j]?=some (k:Int)/\k<(g.nodes.set n nd).length;rw[Wv];exact h.t j b
 ·show x.refs.length<=15/\x.data.length<=32/\(∀ v∈x.refs,v = -1\/(0<=v/\v<(g.nodes.set n nd).length))/\_;rw[Wv];rcases W4 c with k | k
  ·exact h.r x k
  ·rw[k];exact a
theorem GOk.drop{g:Gra}(h:GOk g)(i:Nat):GOk ⟨g.nodes,g.used.set i false,g.roots.set i (-1)⟩:=by
 have b:=h.u;have c:=h.v;refine ⟨by show (g.used.set i false).length=32;rw[Wv];exact b,by show (g.roots.set i (-1)).length=32;rw[Wv];exact c,h.n,λj a=>?_,h.r⟩;have a:(g.used.set i false)[j]?=some true:=a;show ∃ k:Nat,(g.roots.set i (-1))[j]?=some (k:Int)/\k<g.nodes.length;by_cases e:i=j
 ·subst e;rw[Ul]at a;simp at a
 ·rw[WC e]at a ⊢;exact h.t j a
theorem GOk.more{g:Gra}(h:GOk g)(o:g.nodes.length<1000000){nd:Nod}(d:nd.refs.length<=15/\nd.data.length<=32/\(∀ v∈nd.refs,v = -1)/\∀ x∈nd.data,U64 x):GOk ⟨g.nodes++[nd],g.used,g.roots⟩:=by
 have i:(g.nodes++[nd]).length=g.nodes.length+1:=by rw[We,WK]
 refine ⟨h.u,h.v,by show (g.nodes++[nd]).length<=_;omega,λj l=>?_,λx m=>?_⟩
 ·obtain ⟨k,e,n⟩:=h.t j l;exact ⟨k,e,by show k<(g.nodes++[nd]).length;omega⟩
 ·show x.refs.length<=15/\x.data.length<=32/\(∀ v∈x.refs,v = -1\/(0<=v/\v<((g.nodes++[nd]).length:Int)))/\_;rw[i];rcases Wn.1 m with k | k
  ·obtain ⟨a,b,c,e⟩:=h.r x k;exact ⟨a,b,λv f=>(c v f).imp id λq=>by omega,e⟩
  ·rw[Wo.1 k];exact ⟨d.1,d.2.1,λv f=>.inl (d.2.2.1 v f),d.2.2.2⟩
theorem rotG_ok{g:Gra}(h:GOk g){v:Int}(a:0<=v/\v<g.nodes.length):GOk (rotG g v (frsG g)).1/\(rotG g v (frsG g)).1.nodes=g.nodes:=by
 cases e:frsG g with
 | none=>exact ⟨h,rfl⟩
 | some i=>exact ⟨h.rot (frsG_lt h e) a,rfl⟩
theorem newG_ok{g:Gra}(h:GOk g)(l:g.nodes.length<1000000){a b:Int}(k:a<=15/\b<=32):GOk (newG g a b (frsG g)).1/\(newG g a b (frsG g)).1.nodes.length<=g.nodes.length+1:=by
 cases e:frsG g with
 | none=>exact ⟨h,by show g.nodes.length<=_;omega⟩
 | some i =>
  have d:=h.more l (nd:=⟨List.replicate a.toNat (-1),List.replicate b.toNat 0⟩) ⟨by rw[Ve];omega,by rw[Ve];omega,λv f=>(UI.1 f).2,λx j=>by rw[(UI.1 j).2];unfold U64;omega⟩;have c:(g.nodes++[(⟨List.replicate a.toNat (-1),List.replicate b.toNat 0⟩:Nod)]).length=g.nodes.length+1:=by rw[We,WK]
  exact ⟨d.rot (frsG_lt h e) (v:=(g.nodes.length:Int)) ⟨Oo,by show (g.nodes.length:Int)<((g.nodes++[_]).length:Int);rw[c];omega⟩,by show (g.nodes++[_]).length<=_;rw[c];omega⟩
theorem doG_ok{g:Gra}(h:GOk g)(l:g.nodes.length<1000000)(o:AOp):GOk (doG g o).1/\(doG g o).1.nodes.length<=g.nodes.length+1:=by
 have a:GOk g/\g.nodes.length<=g.nodes.length+1:=⟨h,Oo⟩;unfold doG;split
 ·split
  ·exact a
  ·rename_i k;exact newG_ok h l ⟨Oo,Oo⟩
 split
 ·exact a
 split
 ·exact a
 split
 ·split
  ·split <;> exact a
  ·exact a
 split
 ·split
  ·rename_i ha;obtain ⟨i,ei,hi,hui⟩:∃ i:Nat,o.a=((i+1:Nat):Int)/\i<32/\g.used[i]?=some true:=by
    rcases hdlG_0 ha with ⟨_,k⟩ | k
    ·cases k
    ·exact k
   obtain ⟨n,j,c⟩:=nodE_i h hui;rw[<- ei]at j;have b:=h.r _ (Wc c);rw[j,Wd,Wa c];dsimp only[Option.getD_some];unfold nodG;split
   ·exact ⟨h.drop _,by show g.nodes.length<=_;omega⟩
   split
   ·exact a
   by_cases d:o.b<0\/(if o.code=2\/o.code=3 then(g.nodes[n].refs.length:Int) else(g.nodes[n].data.length:Int))<=o.b
   ·rw[if_pos d];exact a
   rw[if_neg d];split
   ·exact a
   split
   ·refine ⟨h.node ⟨b.1,by show (g.nodes[n].data.set _ _).length<=32;rw[Wv];exact b.2.1,b.2.2.1,λx e=>?_⟩,by show (g.nodes.set _ _).length<=_;rw[Wv];omega⟩;rcases W4 e with k | k
    ·exact b.2.2.2 x k
    ·rw[k];exact wu_u _
   split
   ·split
    ·rename_i hc;refine ⟨h.node ⟨by show (g.nodes[n].refs.set _ _).length<=15;rw[Wv];exact b.1,b.2.1,λx e=>?_,b.2.2.2⟩,by show (g.nodes.set _ _).length<=_;rw[Wv];omega⟩;rcases W4 e with k | k
     ·exact b.2.2.1 x k
     ·rw[k];exact (Qfk h hc).1
    ·exact a
   ·split
    ·exact a
    ·rename_i k7 k9 k4 k5 k3 hv;have f:o.b.toNat<g.nodes[n].refs.length:=by rename_i hcode;rw[if_pos Oo]at d;omega
     rw[Wa f]at hv ⊢;dsimp only[Option.getD_some]at hv ⊢;have:=b.2.2.1 _ (Wc f);obtain ⟨r1,r2⟩:=rotG_ok h (this.resolve_left hv);exact ⟨r1,by rw[r2];omega⟩
  ·exact a
 ·exact a
theorem new29_c:∃ g,QaX=some g/\GOk g/\g.nodes=[]/\∀ i:Nat,¬ g.used[i]?=some true:=by
 refine ⟨⟨[],List.replicate 32 false,List.replicate 32 (-1)⟩,Gd.eq ?_,?_,rfl,λi a=>?_⟩
 ·unfold QaX;refine .pos Oo (.pos Oo ?_);refine Gd.bind (P:=λb=>b=List.replicate 32 (-1)) ?_ λb h=>.some (by rw[h];rfl);have e:(List.replicate (Int.toNat 32) (0:Int)).length=32:=by simp
  rw[e];refine Gd.for 32 (λ(t:List Int) i=>(t,i)) (λi t=>t=List.replicate i (-1)++List.replicate (32-i) 0) (List.replicate 32 0) rfl (λ_ _=>rfl) Oo Os (λi a t c=>?_) (λt c=>by rw[c];rfl);have f:t.length=32:=by rw[c,We,Ve,Ve];omega
  refine .atN (show i<t.length by omega) (.some (.inl ⟨t.set i (-1),by rw[Wd],?_⟩));rw[c,Yk _ _ (by rw[Ve];exact Wl _),Ve,Ui,show 32-i=(31-i)+1 by omega,U2,List.set_cons_zero,Ys,WP,show 32-(i+1)=31-i by omega];rfl
 ·refine ⟨Os,Os,Os,λi a=>?_,λj d=>by cases d⟩;have a:(List.replicate 32 false)[i]?=some true:=a;rw[VR]at a;split at a <;> cases a
 ·have a:(List.replicate 32 false)[i]?=some true:=a;rw[VR]at a;split at a <;> cases a
theorem Zg{d:Qc}(h:Jg d){n:Int}(g:1<=n/\n<=9223372036854775807):Gd (λr=>(0<=r.1/\r.1<n)/\Jg r.2) (Qb d n):=by obtain ⟨v,a,e,b,c,f⟩:=next_spec h g;exact ⟨(v,a),e,⟨b,c⟩,f⟩
theorem op1_g{d:Qc}(h:Jg d){c:List Int}(g:∀ x∈c,0<=x/\x<=64)(i:c.length<=64):Gd (λr=>(0<=r.1/\r.1<=64)/\r.2.1=c/\r.2.2.1=c/\Jg r.2.2.2) (Zb c d):=by
 unfold Zb;refine .ite (λk=>?_) λk=>?_
 ·refine .bind (Zg h Oo) λr b=>.some ⟨Oo,rfl,rfl,b.2⟩
 ·refine .bind (Zg h Oo) λr b=>.ite (λf=>?_) λf=>?_
  ·refine .bind (Zg b.2 Oo) λr2 a=>.some ⟨Oo,rfl,rfl,a.2⟩
  ·refine .bind (Zg b.2 Oo) λr2 a=>?_;have e:=a.1;refine .at e.1 Oo (.some ⟨g _ (Wc _),rfl,rfl,a.2⟩)
theorem op_g{d:Qc}(h:Jg d){g:Gra}(N:GOk g):Gd (λr=>OpI r.1/\Jg r.2) (QcQ d g):=by
 have O:=N.u;unfold QcQ;refine Gd.bind (P:=λb:List Int=>(∀ x∈b,0<=x/\x<=64)/\b.length<=64) ?_ λc n=>?_
 ·refine Gd.for g.used.length (λ(t:List Int) i=>(t,i)) (λi t=>t.length<=i/\∀ x∈t,0<=x/\x<=64) [] rfl (λ_ _=>rfl) Oo ⟨Os,λx D=>by cases D⟩ (λi J t u=>?_) (λt u=>⟨u.2,by have:=u.1;show t.length<=64;omega⟩);have I:=u.1;refine .atN J (.ite (λk=>.pos (X9 (l:=t) Oo Oo) (.some (.inl ⟨t++[w64 ((i:Int)+1)],rfl,by rw[We,WK];omega,λx D=>?_⟩))) λk=>.some (.inl ⟨t,rfl,Oo,u.2⟩));rcases Wn.1 D with q | q
  ·exact u.2 x q
  ·rw[Wo.1 q,Qd Oo];omega
 refine .bind (Zg h Oo) λr13 f=>?_;have B:=f.1;refine .at B.1 (by simp only[WX,VH];omega) ?_;refine Gd.bind (P:=λ_=>True) ?_ λK _=>?_
 ·exact .ite (λ_=>.ite (λ_=>.some trivial) λ_=>.some trivial) λ_=>.some trivial
 refine .ite (λ_=>?_) λ_=>?_
 ·refine .bind (Zg f.2 Oo) λL E=>.bind (Zg E.2 Oo) λw z=>?_;have C:=z.1;refine Gd.bind (P:=λv=>1<=v/\v<=17) ?_ λv Q=>?_
  ·have G:w.1.toNat<([3,3,8,17]:List Int).length:=by simp only[WX,VH];omega
   have e:=at_int (l:=([3,3,8,17]:List Int)) C.1 G;refine ⟨_,e,?_⟩;have H:=Wc G;generalize ([3,3,8,17]:List Int)[w.1.toNat]=y at H;simp only[Wt,Vx,or_false]at H;omega
  ·refine .bind (Zg z.2 Oo) λF A=>.some ⟨⟨?_⟩,A.2⟩;have:=A.1;show I64 F.1;unfold I64;omega
 refine Gd.bind (P:=λ_=>True) ?_ λM _=>?_
 ·exact .ite (λ_=>.some trivial) λ_=>.some trivial
 refine .ite (λ_=>?_) λ_=>.ite (λ_=>?_) λ_=>.ite (λ_=>?_) λ_=>.ite (λ_=>?_) λ_=>.ite (λ_=>?_) λ_=>.ite (λ_=>?_) λ_=>.some ⟨⟨by show I64 0;unfold I64;omega⟩,f.2⟩
 ·refine .bind (op1_g f.2 n.1 n.2) λo a=>.pos (by rw[a.2.2.1]) (.bind (Zg a.2.2.2 Oo) λp j=>.some ⟨⟨?_⟩,j.2⟩);have:=j.1;show I64 p.1;unfold I64;omega
 ·refine .bind (op1_g f.2 n.1 n.2) λo a=>.pos (by rw[a.2.2.1]) (.bind (Zg a.2.2.2 Oo) λp j=>?_);rw[a.2.2.1];refine .bind (op1_g j.2 n.1 n.2) λs m=>.pos (by rw[m.2.2.1]) (.some ⟨⟨?_⟩,m.2.2.2⟩);have:=j.1;show I64 p.1;unfold I64;omega
 ·refine .bind (op1_g f.2 n.1 n.2) λo a=>.pos (by rw[a.2.2.1]) (.bind (Zg a.2.2.2 Oo) λp j=>.bind (Zg j.2 Oo) λs m=>.some ⟨⟨?_⟩,m.2⟩);have:=j.1;show I64 p.1;unfold I64;omega
 ·refine .bind (op1_g f.2 n.1 n.2) λo a=>.pos (by rw[a.2.2.1]) ?_;rw[a.2.2.1];refine .bind (op1_g a.2.2.2 n.1 n.2) λs m=>.pos (by rw[m.2.2.1]) (.some ⟨⟨?_⟩,m.2.2.2⟩);have:=m.1;show I64 s.1;unfold I64;omega
 ·refine .bind (op1_g f.2 n.1 n.2) λo a=>.pos (by rw[a.2.2.1]) (.some ⟨⟨by show I64 0;unfold I64;omega⟩,a.2.2.2⟩)
 ·refine .bind (op1_g f.2 n.1 n.2) λo a=>.pos (by rw[a.2.2.1]) (.some ⟨⟨by show I64 0;unfold I64;omega⟩,a.2.2.2⟩)
def newH(c:Cfg)(k:Int)(n:Nat):Hp:=⟨c,newS k n,List.replicate c.rules.length [],0,[],⟨List.replicate 32 false,List.replicate 32 0⟩,0,⟨0,0,0,0,0,0,0,0,0⟩,false⟩
theorem flat_nil{α:Type}(n:Nat):(List.replicate n ([]:List α)).flatten=[]:=by rw[List.flatten_eq_nil_iff];exact λl a=>(UI.1 a).2
theorem newH_inv{c:Cfg}(p:Qeg c){k:Int}{n:Nat}(r:Qcp k)(s:2<=n/\n<=64):QG (newH c k n) (List.replicate c.rules.length []):=by
 have l:=flat_nil (α:=Itm) c.rules.length;have d:=new_inv r s;have g:∀ x,x∉(List.replicate c.rules.length ([]:List Itm)).flatten:=λx a=>by rw[l]at a;cases a
 have j:∀ q,¬ QaC (szS (newS k n)) (List.replicate c.rules.length ([]:List Itm)).flatten q:=λq e=>by rw[l]at e;obtain ⟨x,a,_⟩:=e;cases a
 refine ⟨p,?_,by rw[Ve];rfl,by rw[l];exact d,λx a=>(g x a).elim,λb u x a=>?_,λq e=>by rw[(UI.1 e).2];exact Yj,λx a=>(g x a).elim,Vo _,⟨by simp[newH],by simp[newH],λi h m _=>?_,λx a=>by rw[(UI.1 a).2];unfold U64;omega⟩,λi d=>?_,λq e=>absurd e (j q),⟨λx a=>(by cases a),λi h=>absurd h (WZ _)⟩,λx a=>(by cases a),λf t q e=>?_,λq e=>absurd e (j q),λ_=>?_⟩
 ·show List.replicate c.rules.length []=_;rw[U6];rfl
 ·rw[Yh]at a;cases a
 ·have m:i<(List.replicate 32 (0:Int)).length:=m;show (List.replicate 32 (0:Int))[i]=0;rw[Yh]
 ·rw[Xs]at d;have d:(List.replicate 32 false)[i]?=some true:=d;rw[VR]at d;split at d <;> cases d
 ·obtain ⟨y,o,_⟩:=e;cases o
 ·have:Qk (newS k n).fs=List.range (newS k n).fs.length:=by unfold Qk;rw[VY];intro i d;rw[Wz]at d;rw[QbX d];simp[newS,feF]
  show 2*((newS k n).fs.length-(Qk (newS k n).fs).length)<=_;rw[this,WV];omega
theorem new27_c{c:Cfg}(a:Qeg c){k n:Int}(d:Qcp k)(e:2<=n/\n<=64):QaY c k n=some (newH c k n.toNat,0):=by
 have f:=a.len;refine Gd.eq ?_;unfold QaY;refine .call (check_c a) (.pos rfl (.call (new_spec d e) (.pos rfl (.pos Oo (.pos Oo ?_)))));have b:QaZ=some ⟨List.replicate 32 false,List.replicate 32 0⟩:=by unfold QaZ;rw[if_pos Oo,if_pos Oo];rfl
 refine .call b (.some ?_);unfold newH;rw[Wd]
structure MadeOk(c:Cfg)(r:Hp×Gra×Qc):Prop where
 inv:∃ BL,QG r.1 BL
 cfg:r.1.config=c
 ded:r.1.dead=false
 seq:r.1.seq<=20000
 gra:GOk r.2.1
 nod:r.2.1.nodes.length<=60
 dck:Jg r.2.2
theorem heapOf_g{c:Cfg}(t:Qeg c){d:Qc}(B:Jg d):Gd (MadeOk c) (JX d c):=by
 unfold JX;refine Gd.bind (P:=λr=>(3<=r.1/\r.1<=4)/\(6<=r.2.1/\r.2.1<=20)/\Jg r.2.2) ?_ λr y=>?_
 ·unfold Qbm;refine .bind (Zg B Oo) λr1 m=>.bind (Zg m.2 Oo) λr2 p=>.some ?_;have C:=m.1;have D:=p.1;refine ⟨?_,?_,p.2⟩
  ·show 3<=w64 (3+r1.1)/\w64 (3+r1.1)<=4;rw[Qd Oo];omega
  ·show 6<=w64 (6+r2.1)/\w64 (6+r2.1)<=20;rw[Qd Oo];omega
 have l:Qcp r.1:=by unfold Qcp;omega
 refine .call (new27_c t l Oo) ?_;obtain ⟨G,u,j,v,_⟩:=new29_c;refine .call u ?_;refine Gd.bind (P:=λb:Qc×Hp×Gra=>MadeOk c (b.2.1,b.2.2,b.1)) ?_ λb z=>.some z;refine .bind (Zg y.2.2 Oo) λr6 q=>?_;have E:=q.1;refine Gd.loop (λ(s:Qc×Hp×Gra×Int)=>Jg s.1/\(∃ BL,QG s.2.1 BL)/\s.2.1.config=c/\s.2.1.dead=false/\GOk s.2.2.1/\(0<=s.2.2.2/\s.2.2.2<=55)/\s.2.1.seq<=257*(55-s.2.2.2)/\(s.2.2.1.nodes.length:Int)<=55-s.2.2.2) _ (λs=>s.2.2.2.toNat) ⟨q.2,⟨_,newH_inv t l Oo⟩,rfl,rfl,j,by dsimp only;rw[Qd Oo];omega,by show (0:Int)<=_;dsimp only;rw[Qd Oo];omega,by dsimp only;rw[v,Qd Oo];show (0:Int)<=_;omega⟩ ?_;rintro ⟨w,h,g,n⟩ ⟨i1,⟨BL,H⟩,i2,i3,i4,i5,i6,i7⟩;dsimp only at i1 H i2 i3 i4 i5 i6 i7;have fin:MadeOk c (h,g,w):=⟨⟨BL,H⟩,i2,i3,by show h.seq<=20000;omega,i4,by show g.nodes.length<=60;omega,i1⟩;refine .ite (λi=>?_) λi=>.out fin;have i:0<n:=i;refine .call rfl (.ite (λA=>?_) λA=>.out fin);refine .bind (op_g i1 i4) λo k=>?_;refine .call (do28_c H Oo k.1) ?_;have a:w64 (n-1)=n-1:=Qd Oo;refine .ite (λe=>.go ⟨k.2,⟨BL,H⟩,i2,i3,i4,by dsimp only;rw[a];omega,by dsimp only;rw[a];omega,by dsimp only;rw[a];omega⟩ (by dsimp only;rw[a];omega)) λe=>?_;have e:¬ (doR h o.1).2.err=18:=e
 have f:=(do_ok H Oo (o:=o.1)).resolve_left e;refine .call (do29_c i4 _) ?_;obtain ⟨x,I⟩:=doG_ok i4 Oo o.1;have F:=f.hi;refine .go ⟨k.2,f.inv,f.cfg.trans i2,f.ded.trans i3,x,by dsimp only;rw[a];omega,by dsimp only;rw[a];omega,by dsimp only;rw[a];omega⟩ (by dsimp only;rw[a];omega)
def pctB:Option (Nat×Int)->Bool
 | some (v,e)=>decide (e=0) && (QeY .gtr v 0 && (QeY .leq v 4607182418800017408 && !QeY .eql v 0))
 | none=>false
theorem pct_all:((List.range 100).all λn=>pctB (Zr ((n+1:Nat):Int)))=true:=by decide +kernel
structure ShrX(x:Nat):Prop where
 ok:Qd2 x
 ne:¬ QeY .eql x 0=true
theorem percent_c{p:Int}(f:1<=p/\p<=100):∃ v,Zr p=some (v,0)/\ShrX v:=by
 obtain ⟨n,rfl⟩:∃ n:Nat,p=((n+1:Nat):Int):=⟨(p-1).toNat,Oo⟩;have h:=WY.1 pct_all n (Wz.2 Oo);generalize Zr ((n+1:Nat):Int)=r at h;match r,h with
 | some (v,e),h =>have h:(decide (e=0) && (QeY .gtr v 0 && (QeY .leq v 4607182418800017408 && !QeY .eql v 0)))=true:=h;rw[W9,W9,W9]at h;obtain ⟨a,c,d,b⟩:=h;have a:=of_decide_eq_true a;subst a;exact ⟨v,rfl,.inr ⟨c,d⟩,λq=>by rw[q]at b;cases b⟩
 | none,h=>exact absurd h Od
def nmB(i:Nat)(c:Int):Bool:=(decide (97<=c) && decide (c<=122)) || (!decide (i=0) && (decide (c=45) || (decide (48<=c) && decide (c<=57))))
def nmA(s:ByteArray):Bool:=(List.range s.size).all λi=>match sAt s (i:Int) with | some c=>nmB i c | none=>false
theorem named_c{s:ByteArray}(h:(decide (1<=s.size) && decide (s.size<=16) && nmA s)=true):Zz s=some true:=by
 simp only[W9,decide_eq_true_eq]at h;obtain ⟨⟨p,q⟩,f⟩:=h;refine Gd.eq ?_;unfold Zz;refine Gd.bndR (P:=λz=>z = .inl ()) ?_ (λ_ d=>.pos Oo (.some (decide_eq_true Oo))) (λr d=>by cases d);refine Gd.for s.size (λ(_:Unit) i=>i) (λi _=>True) () rfl (λ_ _=>rfl) Oo trivial (λi g t j=>?_) (λt j=>rfl);have b:=WY.1 f i (Wz.2 g);cases e:sAt s (i:Int) with
 | none=>rw[e]at b;cases b
 | some c =>
  rw[e]at b;unfold nmB at b;simp only[VK,W9,decide_eq_true_eq,Vy,decide_eq_false_iff_not]at b;have go:Gd (λa=>(∃ t':Unit,a=LS.go (β:=Unit ⊕ Bool) (w64 ((i:Int)+1))/\True)\/∃ o,a=LS.out o/\o = .inl ()) (some (LS.go (w64 ((i:Int)+1)))):=.some (.inl ⟨(),rfl,trivial⟩);refine .bind (P:=λv=>v=c) ⟨c,rfl,rfl⟩ λv k=>?_;subst k;refine .ite (λl=>.ite (λm=>go) λm=>?_) λl=>?_;all_goals
   refine .neg Oo (.ite (λn=>go) λn=>.neg Oo (.neg Oo go))
theorem names_ok:∀ s∈[(ByteArray.mk #[115,101,109,105,115,112,97,99,101]),(ByteArray.mk #[97,112,112,101,108]),(ByteArray.mk #[102,105,120,101,100]),(ByteArray.mk #[111,108,100,101,114,45,102,105,114,115,116]),(ByteArray.mk #[120,120]),(ByteArray.mk #[120,120,49,48,48]),(ByteArray.mk #[111,119,110])],(decide (1<=s.size) && decide (s.size<=16) && nmA s)=true:=by decide +kernel
structure RulI(n j:Nat)(r:Rul):Prop where
 shr:Qd2 r.share
 lim:0<=r.limit/\r.limit<=64
 bat:0<=r.batch/\r.batch<=64
 last:j+1=n->r.limit=0/\r.target=j
 next:j+1<n->r.target=j+1
def Qd5(x:Nat)(a:Int):Prop:=if QeY .eql x 0=true then 1<=a/\a<=64 else a=0
structure OwnI(n b:Nat)(rs:List Rul)(full:Int):Prop where
 len:rs.length=b
 rule:∀ j (h:j<rs.length),RulI n j rs[j]
 fl:b<n->full=0
 fin:b=n->∀ h:n-1<rs.length,Qd5 rs[n-1].share full
theorem OwnI.push{n b:Nat}{c:List Rul}{a f':Int}(h:OwnI n b c a){r:Rul}(i:RulI n b r)(m:b+1<n->f'=0)(l:b+1=n->Qd5 r.share f'):OwnI n (b+1) (c++[r]) f':=by
 have d:=h.len;refine ⟨by rw[We,WK,d],λj f=>?_,m,λe f=>?_⟩
 ·rw[We,WK]at f;by_cases k:j<c.length
  ·rw[YG k];exact h.rule j k
  ·have:j=c.length:=by omega
   subst this;rw[U0 (Wl _)];simp only[Ui,YR];rw[d];exact i
 ·have:=l e;have g:n-1=c.length:=by omega
  simp only[g];rw[U0 (Wl _)];simp only[Ui,YR];exact this
theorem OwnI.cfg{n:Nat}{a:List Rul}{c:Int}(h:OwnI n n a c)(k:1<=n/\n<=4){s:ByteArray}(g:Zz s=some true):Qeg ⟨s,a,c⟩:=by
 have i:=h.len;refine ⟨g,by show 1<=a.length/\a.length<=4;omega,λb d=>?_,λb j d=>?_,λd=>?_⟩
 ·have d:b<a.length:=d;have f:=h.rule b d;refine ⟨f.shr,f.lim,f.bat,λe=>f.last (by have:b+1=a.length:=e;omega),λe=>?_⟩;have e:b+1<a.length:=e;have:=f.next Oo;show (b:Int)<a[b].target/\a[b].target<(a.length:Int);omega
 ·have d:b<a.length:=d;refine ⟨b-1,by show b-1<a.length;omega,by show b-1+1<a.length;omega,?_⟩;have:=(h.rule (b-1) Oo).next Oo;show a[b-1].target=(b:Int);omega
 ·have:=h.fin rfl Oo;have e:a.length-1=n-1:=by omega
  show Qd5 (a[a.length-1]'_).share c;simp only[e];exact this
theorem f00:QeY .eql 0 0=true:=by decide +kernel
theorem full0{f:Int}(h:1<=f/\f<=64):Qd5 0 f:=by unfold Qd5;rw[if_pos f00];exact h
theorem fullX{x:Nat}(h:ShrX x):Qd5 x 0:=by unfold Qd5;rw[if_neg h.ne]
theorem own0{n:Nat}(a:1<=n):OwnI n 0 [] 0:=⟨rfl,λj h=>absurd h (WZ _),λ_=>rfl,λe=>by omega⟩
theorem shr0:Qd2 0:=.inl rfl
theorem J7{n j:Nat}{x:Nat}{l b t:Int}(e:Qd2 x)(c:0<=l/\l<=64)(a:0<=b/\b<=64)(f:j+1=n->l=0/\t=j)(d:j+1<n->t=j+1):RulI n j ⟨x,l,b,t⟩:=⟨e,c,a,f,d⟩
theorem one_cfg{x:Nat}{b f:Int}(d:Qd2 x)(c:0<=b/\b<=64)(a:Qd5 x f):OwnI 1 1 [⟨x,0,b,0⟩] f :=
 (own0 (Wl 1)).push (r:=⟨x,0,b,0⟩) (J7 d Oo c (λ_=>⟨rfl,rfl⟩) λh=>by omega) (λh=>by omega) λ_=>a
theorem two_cfg{x y:Nat}{l b a f:Int}(i:Qd2 x)(j:Qd2 y)(g:0<=l/\l<=64)(d:0<=b/\b<=64)(c:0<=a/\a<=64)(e:Qd5 y f):OwnI 2 2 [⟨x,l,b,1⟩,⟨y,0,a,1⟩] f :=
 ((own0 Oo).push (r:=⟨x,l,b,1⟩) (f':=0) (J7 i g d (λh=>by omega) λ_=>rfl) (λ_=>rfl) λh=>by omega).push (r:=⟨y,0,a,1⟩) (J7 j Oo c (λ_=>⟨rfl,rfl⟩) λh=>by omega) (λh=>by omega) λ_=>e
theorem three_cfg{x y z:Nat}{b d a f:Int}(j:Qd2 x)(l:Qd2 y)(k:Qd2 z)(g:0<=b/\b<=64)(e:0<=d/\d<=64)(c:0<=a/\a<=64)(i:Qd5 z f):OwnI 3 3 [⟨x,0,b,1⟩,⟨y,0,d,2⟩,⟨z,0,a,2⟩] f :=
 (((own0 Oo).push (r:=⟨x,0,b,1⟩) (f':=0) (J7 j Oo g (λh=>by omega) λ_=>rfl) (λ_=>rfl) λh=>by omega).push (r:=⟨y,0,d,2⟩) (f':=0) (J7 l Oo e (λh=>by omega) λ_=>rfl) (λ_=>rfl) λh=>by omega).push (r:=⟨z,0,a,2⟩) (J7 k Oo c (λ_=>⟨rfl,rfl⟩) λh=>by omega) (λh=>by omega) λ_=>i
def nameL:List ByteArray:=[(ByteArray.mk #[115,101,109,105,115,112,97,99,101]),(ByteArray.mk #[97,112,112,101,108]),(ByteArray.mk #[102,105,120,101,100]),(ByteArray.mk #[111,108,100,101,114,45,102,105,114,115,116]),(ByteArray.mk #[120,120]),(ByteArray.mk #[120,120,49,48,48])]
def nameB(i j:Nat):Bool:=match nameL[i]?,nameL[j]? with | some s,some t=>(s.toList == t.toList) == decide (i=j) | _,_=>false
theorem names_ne:((List.range 6).all λi=>(List.range 6).all λj=>nameB i j)=true:=by decide +kernel
theorem name_e{i j:Nat}{s t:ByteArray}(c:nameL[i]?=some s)(d:nameL[j]?=some t)(a:i<6)(b:j<6):(s.toList == t.toList)=decide (i=j):=by have h:=WY.1 (WY.1 names_ne i (Wz.2 a)) j (Wz.2 b);unfold nameB at h;rw[c,d]at h;simpa using h
theorem get_c{i:Nat}(m:i<6){s:ByteArray}(n:nameL[i]?=some s){p:Int}(w:1<=p/\p<=100):Gd (λr=>Qeg r.1) (Qa2 s p):=by
 obtain ⟨v,u,c⟩:=percent_c w;have d:Zz s=some true:=named_c (names_ok s (by
  have:=Wp n
  unfold nameL at this
  simp only[Wt,Vx,or_false]at this ⊢
  rcases this with h | h | h | h | h | h <;> simp[h]))
 have a:∀ {j:Nat} {t:ByteArray},nameL[j]?=some t->j<6->i≠j->¬ (s.toList == t.toList)=true:=λ{j t} g k l q=>by rw[name_e n g m k]at q;exact l (of_decide_eq_true q)
 have e:∀ {t:ByteArray},nameL[i]?=some t->(s.toList == t.toList)=true:=λ{t} g=>by rw[name_e n g m m];exact decide_eq_true rfl
 unfold Qa2;refine .call u (.pos rfl ?_);have b:¬ p<1:=by omega
 have z:(0:Int)<=0/\(0:Int)<=64:=by omega
 have o:(0:Int)<=1/\(1:Int)<=64:=by omega
 have f:Qd5 0 8:=full0 Oo;rcases i with _ | _ | _ | _ | _ | _ | i
 ·exact .pos (e rfl) (.neg b (.some ((one_cfg shr0 z (full0 Oo)).cfg Oo d)))
 ·exact .neg (a (j:=0) rfl Oo Oo) (.pos (e rfl) (.neg b (.some ((two_cfg shr0 shr0 z z z f).cfg Oo d))))
 ·exact .neg (a (j:=0) rfl Oo Oo) (.neg (a (j:=1) rfl Oo Oo) (.pos (e rfl) (.neg b (.some ((two_cfg c.ok shr0 o z z f).cfg Oo d)))))
 ·exact .neg (a (j:=0) rfl Oo Oo) (.neg (a (j:=1) rfl Oo Oo) (.neg (a (j:=2) rfl Oo Oo) (.pos (e rfl) (.neg b (.some ((one_cfg c.ok o (fullX c)).cfg Oo d))))))
 ·exact .neg (a (j:=0) rfl Oo Oo) (.neg (a (j:=1) rfl Oo Oo) (.neg (a (j:=2) rfl Oo Oo) (.neg (a (j:=3) rfl Oo Oo) (.pos (e rfl) (.neg b (.some ((two_cfg c.ok c.ok z o o (fullX c)).cfg Oo d)))))))
 ·exact .neg (a (j:=0) rfl Oo Oo) (.neg (a (j:=1) rfl Oo Oo) (.neg (a (j:=2) rfl Oo Oo) (.neg (a (j:=3) rfl Oo Oo) (.neg (a (j:=4) rfl Oo Oo) (.pos (e rfl) (.neg b (.some ((three_cfg c.ok c.ok shr0 o o z f).cfg Oo d))))))))
 ·omega
theorem Qeg.more{c:Cfg}(h:Qeg c)(d:0<c.full){f:Int}(b:1<=f/\f<=64):Qeg ⟨c.name,c.rules,f⟩:=by
 refine ⟨h.name,h.len,h.rule,h.aim,λa=>?_⟩;have:=h.full a;split at this
 ·rename_i e;show if _ then _ else _;rw[if_pos e];exact b
 ·omega
theorem shares_ok:∀ x∈[4602678819172646912,4593671619917905920,4607182418800017408,4599676419421066581,4562254508917369340],(QeY .gtr x 0 && QeY .leq x 4607182418800017408)=true:=by decide +kernel
theorem share_g{d:Qc}(h:Jg d):Gd (λr=>Qd2 r.1/\Jg r.2) (Qau d):=by
 unfold Qau;refine .bind (Zg h Oo) λr1 e=>.ite (λ_=>?_) λ_=>?_
 ·refine .bind (Zg e.2 Oo) λr2 a=>?_;have b:=a.1;have c:r2.1.toNat<([4602678819172646912,4593671619917905920,4607182418800017408,4599676419421066581,4562254508917369340]:List Nat).length:=by simp only[WX,VH];omega
  refine .at b.1 c (.some ⟨?_,a.2⟩);have:=shares_ok _ (Wc c);rw[W9]at this;exact .inr this
 ·refine .bind (Zg e.2 Oo) λr2 a=>?_;have b:=a.1;rw[Qd Oo];obtain ⟨v,f,g⟩:=percent_c (p:=1+r2.1) Oo;exact .call f (.some ⟨g.ok,a.2⟩)
def OwnS(n:Nat)(s:Qc×List Rul×Int×Int):Prop:=Jg s.1/\∃ b:Nat,s.2.2.2=(b:Int)/\b<=n/\OwnI n b s.2.1 s.2.2.1
def OwnQ(n:Nat)(b:Qc×List Rul×Int):Prop:=Jg b.1/\OwnI n n b.2.1 b.2.2
theorem QfV{n b:Nat}{d:Qc}{a:List Rul}{f f':Int}{r:Rul}{m:Nat}(o:n<=4)(l:b<n)(h:OwnI n b a f)(i:Jg d)(c:RulI n b r)(j:b+1<n->f'=0)(g:b+1=n->Qd5 r.share f')(p:n-b=m) :
  Gd (LSP (OwnS n) (OwnQ n) (λs=>n-s.2.2.2.toNat) m) (if ((a.length:Int)+([r]:List Rul).length)*32<=140737488355328/\(a.length:Int)+([r]:List Rul).length<=9223372036854775807 then some (LS.go (d,a++[r],f',w64 ((b:Int)+1))) else none):=by
 have k:=h.len;have e:w64 ((b:Int)+1)=((b+1:Nat):Int):=by rw[Qd Oo];push_cast;rfl
 rw[e];refine .pos (by rw[WK];omega) (.go ⟨i,b+1,rfl,Oo,h.push c j g⟩ ?_);show n-(((b+1:Nat):Int)).toNat<m;rw[Wd];omega
set_option maxHeartbeats 1000000 in
theorem config_g{d:Qc}(z:Jg d):Gd (λr=>Qeg r.1/\Jg r.2) (JY d):=by
 unfold JY;refine .bind (Zg z Oo) λr2 J=>.ite (λ_=>?_) λ_=>?_
 ·refine .call (show QaN=some nameL from rfl) (.bind (Zg J.2 Oo) λr5 K=>?_);have M:=K.1;have I:r5.1.toNat<nameL.length:=by show r5.1.toNat<6;omega
  refine .at M.1 I (.bind (Zg K.2 Oo) λr7 L=>.bind (Zg L.2 Oo) λr8 D=>?_);have X:=L.1;have N:=D.1;rw[Qd (n:=1+r7.1) Oo];have q:r8.1.toNat<([10,15,25,30,50,1+r7.1]:List Int).length:=by simp only[WX,VH];omega
  refine .at N.1 q ?_;have O:1<=([10,15,25,30,50,1+r7.1]:List Int)[r8.1.toNat]/\([10,15,25,30,50,1+r7.1]:List Int)[r8.1.toNat]<=100:=by have o:=Wc q;generalize ([10,15,25,30,50,1+r7.1]:List Int)[r8.1.toNat]=y at o;simp only[Wt,Vx,or_false]at o;omega
  refine .bind (get_c (i:=r5.1.toNat) Oo (Wa I) O) λr10 u=>.ite (λT=>?_) λ_=>.some ⟨u,D.2⟩;refine .bind (Zg D.2 Oo) λr13 v=>.some ⟨?_,v.2⟩;have Q:=v.1;rw[Qd Oo];exact u.more T Oo
 ·refine .bind (Zg J.2 Oo) λr14 w=>?_;have R:=w.1;rw[Qd (n:=1+r14.1) Oo];obtain ⟨n,en⟩:∃ n:Nat,1+r14.1=(n:Int):=⟨(1+r14.1).toNat,Oo⟩;rw[en];have t:1<=n:=by omega
  have c:n<=4:=by omega
  rw[Qd (n:=(n:Int)-1) Oo];refine Gd.bind (P:=OwnQ n) ?_ λb e=>.some ⟨e.2.cfg ⟨t,c⟩ (named_c (names_ok _ Os)),e.1⟩;refine Gd.loop (OwnS n) (OwnQ n) (λs=>n-s.2.2.2.toNat) ⟨w.2,0,rfl,Oo,own0 t⟩ ?_;rintro ⟨d,Y,f,i⟩ ⟨z,b,eb,hbn,hI⟩;dsimp only at z eb hI ⊢;subst eb;refine .ite (λe=>?_) λe=>.out ⟨z,?_⟩
  ·have e:b<n:=by omega
   have j:=hI.fl e;have o:n-b=n-((b:Nat):Int).toNat:=by rw[Wd]
   have A:w64 ((b:Int)+1)=((b+1:Nat):Int):=by rw[Qd Oo];push_cast;rfl
   refine .bind (Zg z Oo) λU x=>.bind (Zg x.2 Oo) λV p=>?_;have S:=x.1;refine .ite (λ_=>?_) λ_=>?_
   ·refine .bind (share_g p.2) λW g=>.ite (λa=>?_) λa=>?_
    ·have a:(b:Int)<(n:Int)-1:=a;refine .bind (Zg g.2 Oo) λE k=>.ite (λ_=>?_) λ_=>?_
     ·refine .bind (Zg k.2 Oo) λF l=>.neg Oo ?_;have B:=l.1;refine QfV c e hI l.2 ?_ (λ_=>j) (λh=>by omega) o;exact J7 g.1 (by rw[Qd Oo];omega) Oo (λh=>by omega) λ_=>by rw[A];push_cast;rfl
     ·refine .neg Oo (QfV c e hI k.2 ?_ (λ_=>j) (λh=>by omega) o);exact J7 g.1 Oo Oo (λh=>by omega) λ_=>by rw[A];push_cast;rfl
    ·have a:¬ (b:Int)<(n:Int)-1:=a;refine .pos Oo (.ite (λG=>?_) λG=>?_)
     ·refine .bind (Zg g.2 Oo) λH m=>?_;have C:=m.1;refine QfV c e hI m.2 (J7 g.1 Oo Oo (λ_=>⟨rfl,rfl⟩) λh=>by omega) (λh=>by omega) (λ_=>?_) o;rw[Qd Oo];unfold Qd5;rw[if_pos G];omega
     ·refine QfV c e hI g.2 (J7 g.1 Oo Oo (λ_=>⟨rfl,rfl⟩) λh=>by omega) (λh=>by omega) (λ_=>?_) o;unfold Qd5;rw[if_neg G];exact j
   ·refine .ite (λa=>?_) λa=>?_
    ·have a:(b:Int)<(n:Int)-1:=a;refine .bind (Zg p.2 Oo) λE k=>.ite (λ_=>?_) λ_=>?_
     ·refine .bind (Zg k.2 Oo) λF l=>.neg Oo ?_;have B:=l.1;refine QfV c e hI l.2 ?_ (λ_=>j) (λh=>by omega) o;exact J7 shr0 (by rw[Qd Oo];omega) Oo (λh=>by omega) λ_=>by rw[A];push_cast;rfl
     ·refine .neg Oo (QfV c e hI k.2 ?_ (λ_=>j) (λh=>by omega) o);exact J7 shr0 Oo Oo (λh=>by omega) λ_=>by rw[A];push_cast;rfl
    ·have a:¬ (b:Int)<(n:Int)-1:=a;refine .pos Oo ?_;refine .bind (Zg p.2 Oo) λH m=>?_;have C:=m.1;refine QfV c e hI m.2 (J7 shr0 Oo Oo (λ_=>⟨rfl,rfl⟩) λh=>by omega) (λh=>by omega) (λ_=>full0 ?_) o;rw[Qd Oo];omega
  ·have e:¬ (b:Int)<n:=e;have:b=n:=by omega
   subst this;exact hI
theorem heap_g{d:Qc}(e:Jg d):Gd (λr=>∃ c,MadeOk c r) (Qa4 d):=by unfold Qa4;refine .bind (config_g e) λr1 a=>.bind (heapOf_g a.1 a.2) λr2 b=>.some ⟨_,b⟩
theorem srt_le(l:List Int):(QeR l).Pairwise (·<=·):=by have:=List.pairwise_mergeSort (le:=λx y:Int=>decide (x<=y)) (λa b c d e=>by simp at d e ⊢;omega) (λa b=>by simp;omega) l;exact this.imp λh=>by simpa using h
theorem srt_mem{l:List Int}{x:Int}:x∈QeR l<->x∈l:=List.mem_mergeSort
theorem srt_len(l:List Int):(QeR l).length=l.length:=List.length_mergeSort l
def Bmp(arr t:List Int)(F:List Nat):Prop:=t.length=arr.length/\∀ f v,arr[f]?=some v->t[f]?=some (if f∈F then v+1 else v)
theorem Bmp.nil(arr:List Int):Bmp arr arr []:=⟨rfl,λf v h=>by simpa using h⟩
theorem Bmp.push{arr t:List Int}{F:List Nat}(h:Bmp arr t F){f:Nat}{v:Int}(i:f∉F)(c:arr[f]?=some v):t[f]?=some v/\Bmp arr (t.set f (v+1)) (F++[f]):=by
 have b:=h.2 f v c;rw[if_neg i]at b;obtain ⟨d,_⟩:=Wq.1 b;refine ⟨b,by rw[Wv];exact h.1,λg w a=>?_⟩;by_cases e:g=f
 ·subst e;rw[c]at a;injection a with a;subst a;rw[WD d,if_pos (Wj _ (Wo.2 rfl))]
 ·rw[WC (λk=>e k.symm),h.2 g w a];simp[e]
def Mrk(G:Itm->List Nat)(L:List Itm)(n:Nat)(arr:List Int):Prop:=arr.length=n/\∀ f,f<n->((∃ x∈L,f∈G x)->arr[f]?=some 1)/\((¬ ∃ x∈L,f∈G x)->arr[f]?=some 0)
theorem Mrk.step{G:Itm->List Nat}{L:List Itm}{n:Nat}{arr a:List Int}(h:Mrk G L n arr){x:Itm}(k:∀ f∈G x,∀ y∈L,f∉G y)(e:Bmp arr a (G x)):Mrk G (L++[x]) n a:=by
 refine ⟨e.1.trans h.1,λf g=>⟨λ⟨y,hy,b⟩=>?_,λj=>?_⟩⟩
 ·by_cases d:f∈G x
  ·have:=e.2 f 0 ((h.2 f g).2 λ⟨z,i,c⟩=>k f d z i c);rw[if_pos d]at this;exact this
  ·rcases Wn.1 hy with hy | hy
   ·have:=e.2 f 1 ((h.2 f g).1 ⟨y,hy,b⟩);rw[if_neg d]at this;exact this
   ·rw[Wo.1 hy]at b;exact absurd b d
 ·have d:f∉G x:=λq=>j ⟨x,Wj _ (Wo.2 rfl),q⟩;have:=e.2 f 0 ((h.2 f g).2 λ⟨z,i,c⟩=>j ⟨z,Wf _ i,c⟩);rw[if_neg d]at this;exact this
theorem Mrk.val{G:Itm->List Nat}{L:List Itm}{n:Nat}{arr:List Int}(h:Mrk G L n arr){f:Nat}(a:f<n):∃ v,arr[f]?=some v/\0<=v/\v<=1:=by
 by_cases k:∃ x∈L,f∈G x
 ·exact ⟨1,(h.2 f a).1 k,Oo,Oo⟩
 ·exact ⟨0,(h.2 f a).2 k,Oo,Oo⟩
theorem Mrk.zero(G:Itm->List Nat)(n:Nat):Mrk G [] n (List.replicate n 0):=⟨Ve,λf a=>⟨λ⟨x,b,_⟩=>(by cases b),λ_=>by rw[VR,if_pos a]⟩⟩
section
variable{h:Hp}{BL:List (List Itm)}
theorem mem_cf1(H:QG h BL){x:Itm}(c:x∈BL.flatten){k:Nat}:k∈cfr h.space.fs [x.i]<->k∈x.fr:=by
 have b:=(H.sp.each x c).inc.toIncC;rw[Qf1,Qf7];constructor
 ·rintro ⟨a,e⟩;exact (b.ow k a).1 (by simpa using e)
 ·intro a;exact ⟨b.ch.lt k a,by simp[(b.ow k (b.ch.lt k a)).2 a]⟩
theorem fr_sep(H:QG h BL){x y:Itm}(c:x∈BL.flatten)(e:y∈BL.flatten){k:Nat}(d:k∈x.fr)(g:k∈y.fr):x=y:=by have a:=(H.sp.each x c).inc.toIncC;have f:=(H.sp.each y e).inc.toIncC;have b:=a.ch.lt k d;exact H.uniq c e (((a.ow k b).2 d).symm.trans ((f.ow k b).2 g))
theorem hd1(H:QG h BL){x:Itm}(c:x∈BL.flatten){i:Nat}:i∈QaS h.space h.roots [x.i]<->i∈Zv h.roots/\X7 h.space (QD h.roots i-1)∈x.fr:=by unfold QaS;rw[WI,QE];refine ⟨λ⟨a,b⟩=>⟨a,(mem_cf1 H c).1 (Qf1.2 b.2)⟩,λ⟨a,b⟩=>⟨a,?_,Qf1.1 ((mem_cf1 H c).2 b)⟩⟩;obtain ⟨y,p,r,d,X⟩:=root_x H a;have:=X.lt;have e:=X.e;omega
theorem new_deck{l:List Int}(h:∀ x∈l,I64 x)(a:l.length<=9223372036854775807):∃ d,Qc5 l=some d/\Jg d:=⟨⟨l,0⟩,rfl,h,by show (0:Int)<=0;omega,a⟩
end
section
variable{h:Hp}{BL:List (List Itm)}
def SlotX(s:Sp)(x:Itm)(q:Int):Prop:=∃ p r d,(p,r,d)∈obs 0 x.os/\∃ k,1<=k/\k<=r/\q=((adr (szS s) x.fr (p+k):Nat):Int)
theorem QdN(H:QG h BL){x:Itm}(b:x∈BL.flatten){q:Int}(c:SlotX h.space x q):0<=q/\q<h.space.ws.length/\X7 h.space q∈x.fr:=by obtain ⟨p,r,d,a,k,e,f,rfl⟩:=c;have:=Z2 H.sp.ok (H.sp.each x b) a (k:=k) Oo (q:=((adr (szS h.space) x.fr (p+k):Nat):Int)) Oo Oo;exact ⟨Oo,this.2,this.1⟩
theorem fld_mem(H:QG h BL){x:Itm}(t:x∈BL.flatten){q:Int}:(∃ a∈Qdx h.space x,q∈(Qb8 h.space a).1)<->SlotX h.space x q:=by
 have c:=H.sp.each x t;have e:∀ p r d,(p,r,d)∈obs 0 x.os->(Qb8 h.space ((adr (szS h.space) x.fr p:Nat):Int)).1=(List.range r).map λj=>((adr (szS h.space) x.fr (p+(j+1)):Nat):Int):=λp r d g=>by have b:=Itm.posOk H.sp.ok c g;have i:=(Qdq H.sp.ok c.inc.ch c.inc.own (p:=p) (r:=r) (d:=d) b.1 b.2.1 b.2.2.1 b.2.2.2).1;unfold Qb8;rw[i,if_pos rfl];dsimp only;unfold fldL;rw[Wd];refine WW λj l=>?_;rw[Wz]at l;have:=go_adr H.sp.ok.shp c.inc.ch c.inc.own (p:=p) (k:=j+1) Oo;rw[show (1+(j:Int))=((j+1:Nat):Int) by omega,this,if_pos Oo]
 constructor
 ·rintro ⟨a,m,n⟩;unfold Qdx at m;obtain ⟨⟨p,r,d⟩,s,rfl⟩:=Wk.1 m;rw[e p r d s]at n;obtain ⟨j,l,rfl⟩:=Wk.1 n;rw[Wz]at l;exact ⟨p,r,d,s,j+1,Oo,Oo,rfl⟩
 ·rintro ⟨p,r,d,g,k,u,v,rfl⟩;refine ⟨((adr (szS h.space) x.fr p:Nat):Int),W0 (f:=λ(o:Nat×Nat×Nat)=>((adr (szS h.space) x.fr o.1:Nat):Int)) g,?_⟩;rw[e p r d g];exact Wk.2 ⟨k-1,by rw[Wz];omega,by rw[show p+(k-1+1)=p+k by omega]⟩
def Mk(s:Sp)(l:List Inc)(D:Int->Prop)(t:List Bool):Prop:=t.length=s.ws.length/\∀ q:Nat,q<s.ws.length->t[q]?=some (bP (D (q:Int)/\QdJ s l (wAt s (q:Int))))
theorem Mk.set{s:Sp}{l:List Inc}{D c:Int->Prop}{t:List Bool}(a:Mk s l D t){q:Int}(g:0<=q)(f:q<s.ws.length)(d:∀ z,c z<->D z\/z=q):Mk s l c (t.set q.toNat (bP (QdJ s l (wAt s q)))):=by
 refine ⟨by rw[Wv];exact a.1,λz b=>?_⟩;by_cases e:z=q.toNat
 ·subst e;rw[WD (by rw[a.1];exact b),show ((q.toNat:Nat):Int)=q by omega];congr 1;exact QdW ⟨λk=>⟨(d q).2 (.inr rfl),k⟩,λk=>k.2⟩
 ·rw[WC (λk=>e k.symm),a.2 z b];congr 1;refine QdW (and_congr_left λ_=>?_);rw[d];exact ⟨.inl,λk=>k.elim id λk=>absurd Oo e⟩
end
def posL:Nat->List (Nat×Nat)->List Nat
 | _,[]=>[]
 | p,(r,d) :: l=>(List.range r).map (λj=>p+(j+1))++posL (p+1+r+d) l
theorem posL_gt:∀ {l:List (Nat×Nat)} {p q:Nat},q∈posL p l->p<q
 | (r,d) :: l,p,q,h=>by
  unfold posL at h;rcases Wn.1 h with h | h
  ·obtain ⟨j,_,rfl⟩:=Wk.1 h;omega
  ·have:=posL_gt h;omega
theorem posL_pw:∀ (l:List (Nat×Nat)) (p:Nat),(posL p l).Pairwise (· < ·)
 | [],p=>Yj
 | (r,d) :: l,p=>by
  unfold posL;rw[W5];refine ⟨?_,posL_pw l _,λa e b f=>?_⟩
  ·rw[Vc];exact List.pairwise_lt_range.imp λk=>by omega
  ·obtain ⟨j,c,rfl⟩:=Wk.1 e;rw[Wz]at c;have:=posL_gt f;omega
theorem posL_in:∀ {l:List (Nat×Nat)} {p q:Nat},q∈posL p l->∃ P r d,(P,r,d)∈obs p l/\∃ k,1<=k/\k<=r/\q=P+k
 | (r,d) :: l,p,q,h=>by
  unfold posL at h;rcases Wn.1 h with h | h
  ·obtain ⟨j,a,rfl⟩:=Wk.1 h;rw[Wz]at a;exact ⟨p,r,d,WA ..,j+1,Oo,Oo,rfl⟩
  ·obtain ⟨P,b,c,e,f⟩:=posL_in h;exact ⟨P,b,c,Wm _ e,f⟩
theorem posL_map(f:Nat->Int):∀ (l:List (Nat×Nat)) (p:Nat),((obs p l).flatMap λo=>(List.range o.2.1).map λj=>f (o.1+(j+1)))=(posL p l).map f
 | [],p=>rfl
 | (r,d) :: l,p=>by unfold posL obs;rw[VJ,WH,W3,posL_map f l];rfl
def slsX(s:Sp)(x:Itm):List Int:=(Qdx s x).flatMap λa=>(Qb8 s a).1
variable{h:Hp}{BL:List (List Itm)}
theorem slsX_eq(H:QG h BL){x:Itm}(m:x∈BL.flatten):slsX h.space x=(posL 0 x.os).map λq=>((adr (szS h.space) x.fr q:Nat):Int):=by
 have a:=H.sp.each x m;rw[<- posL_map];unfold slsX Qdx;rw[List.flatMap_map];have:∀ (L:List (Nat×Nat×Nat)),(∀ o∈L,o∈obs 0 x.os)->(L.flatMap λo=>(Qb8 h.space ((adr (szS h.space) x.fr o.1:Nat):Int)).1)=L.flatMap λo=>(List.range o.2.1).map λj=>((adr (szS h.space) x.fr (o.1+(j+1)):Nat):Int):=by
  intro L f;induction L with
  | nil=>rfl
  | cons o L ih =>rw[VJ,VJ,ih λo e=>f o (Wm _ e)];congr 1;have g:(o.1,o.2.1,o.2.2)∈obs 0 x.os:=f o (WA ..);have b:=Itm.posOk H.sp.ok a g;have c:=(Qdq H.sp.ok a.inc.ch a.inc.own (p:=o.1) (r:=o.2.1) (d:=o.2.2) b.1 b.2.1 b.2.2.1 b.2.2.2).1;unfold Qb8;rw[c,if_pos rfl];dsimp only;unfold fldL;rw[Wd];refine WW λj l=>?_;rw[Wz]at l;have i:=go_k (s:=h.space) (k:=j+1) (p:=o.1) H.sp.ok.shp a.inc.ch a.inc.own Oo;rw[show (1:Int)+(j:Int)=((j+1:Nat):Int) by push_cast;omega,i]
 exact this _ λo e=>e
theorem slsX_nodup(H:QG h BL){x:Itm}(g:x∈BL.flatten):(slsX h.space x).Nodup:=by
 have c:=H.sp.each x g;rw[slsX_eq H g,List.Nodup,Vc];refine YH (λ{a b} s t u e=>?_) (posL_pw x.os 0);obtain ⟨P,r,d,j,k,y,z,rfl⟩:=posL_in s;obtain ⟨l,A,B,f,m,n,o,rfl⟩:=posL_in t;have v:=Itm.posOk H.sp.ok c j;have w:=Itm.posOk H.sp.ok c f;have i:0<szS h.space:=by have:=H.sp.ok.shp.z;omega
 have:=Qbr i c.inc.nd (p:=P+k) (q:=l+m) Oo Oo (by exact_mod_cast e);omega
theorem Qff(H:QG h BL){x:Itm}(a:x∈BL.flatten){q:Int}:q∈slsX h.space x<->SlotX h.space x q:=by rw[<- fld_mem H a];unfold slsX;rw[Up]
def slsB(s:Sp)(L:List Itm):List Int:=L.flatMap (slsX s)
theorem slsB_nodup(H:QG h BL):(slsB h.space BL.flatten).Nodup:=by unfold slsB;rw[List.Nodup,Y3];refine ⟨λx c=>slsX_nodup H c,?_⟩;refine YH (λ{x y} c d k=>?_) H.order;intro a i b j e;subst e;have f:=QdN H c ((Qff H c).1 i);have g:=QdN H d ((Qff H d).1 j);have:=fr_sep H c d f.2.2 g.2.2;subst this;omega
theorem slsB_mem(H:QG h BL){q:Int}:q∈slsB h.space BL.flatten<->∃ x∈BL.flatten,SlotX h.space x q:=by
 unfold slsB;rw[Up];constructor
 ·rintro ⟨x,a,k⟩;exact ⟨x,a,(Qff H a).1 k⟩
 ·rintro ⟨x,a,k⟩;exact ⟨x,a,(Qff H a).2 k⟩
theorem clist_c{s:Sp}(j:ZL s)(p:SpW s){F:Int}{m:Nat}(h:IsLen s F m):XU s F=some (if ownF s.fs F = -1 then([],5) else(itL s F m,0)):=by
 obtain ⟨r,t,u,f⟩:=h;have l:=j.shp.hi;have g:0<=F/\F<s.fs.length:=f 0 Oo;have e:Qai s F=some true:=by unfold Qai;rw[if_pos g.1];congr 1;exact decide_eq_true g.2
 have a:Z0 s F=some (decide (ownF s.fs F = -1)):=by obtain ⟨n,rfl⟩:∃ n:Nat,F=n:=⟨F.toNat,Oo⟩;refine Gd.eq ?_;unfold Z0;refine .atN Oo (.some ?_);rw[ownF_at Oo]
 refine Gd.eq ?_;unfold XU;refine .call (QfI s p) (.pos (J6 j) (.call e (.pos rfl (.call a ?_))));refine .ite (λk=>.some (by rw[if_pos (of_decide_eq_true k)])) λk=>?_;rw[if_neg λq=>k (decide_eq_true q)];refine Gd.bind (P:=λb=>b=itL s F m) ?_ λb o=>.some (by rw[o]);refine Gd.loop (λx:List Int×Int=>∃ k:Nat,x=(itL s F k,itF s.fs k F)/\k<=m) _ (λx=>m-x.1.length) ⟨0,rfl,WT _⟩ ?_;rintro x ⟨k,rfl,hk⟩;dsimp only;have c:0<=itF s.fs k F<->k<m:=by
  constructor
  ·intro h;rcases Ws k m with h' | h'
   ·exact h'
   ·have:k=m:=by omega
    subst this;omega
  ·intro h;exact (f k h).1
 refine .ite (λh=>?_) λh=>.out (by rw[show k=m by have:=mt c.2 h;omega]);have d:=c.1 h;have i:=f k d;rw[itL_len];simp only[WX,VH];refine .pos ⟨Oo,Oo⟩ ?_;refine .at i.1 Oo ?_;refine .go ⟨k+1,?_,d⟩ (by dsimp only;rw[We,itL_len];simp only[WX,VH];omega);rw[itF_succ,nxF_z i.1 Oo];refine Prod.ext ?_ rfl;show itL s F k++[itF s.fs k F]=itL s F (k+1);unfold itL;rw[Ua,WH];rfl
theorem clist_no{s:Sp}(d:ZL s)(c:SpW s){F:Int}(h:¬ (0<=F/\F<s.fs.length)):XU s F=some ([],2):=by
 refine Gd.eq ?_;unfold XU;refine .call (QfI s c) (.pos (J6 d) ?_);have a:Qai s F=some false:=by
  unfold Qai;by_cases b:0<=F
  ·rw[if_pos b];congr 1;exact decide_eq_false λk=>h ⟨b,k⟩
  ·rw[if_neg b]
 exact .call a (.neg Od (.some rfl))
theorem bfr_c{s:Sp}(b:Qcp s.sh){i:Inc}(a:I64 i.words):J1 s i=some (clN s i.words):=by refine Gd.eq ?_;unfold J1;exact .call (show Qcb i.words s.sh=_ from frames_c b a) (.some rfl)
theorem bowns_c{s:Sp}(g:s.fs.length<=64)(q:Int):Qa5 s q=some ((cnO s.fs q s.fs.length:Nat):Int):=by
 refine Gd.eq ?_;unfold Qa5;refine Gd.bind (P:=λb=>b=((cnO s.fs q s.fs.length:Nat):Int)) ?_ λb f=>.some (by rw[f]);refine Gd.loop (λx:Int×Int=>∃ k:Nat,x=(((cnO s.fs q k:Nat):Int),(k:Int))/\k<=s.fs.length) _ (λx=>s.fs.length-x.2.toNat) ⟨0,rfl,WT _⟩ ?_;rintro x ⟨k,rfl,hk⟩;dsimp only;have d:=cnO_le s.fs q k;refine .ite (λa=>?_) λa=>.out (by rw[show k=s.fs.length by omega]);have a:k<s.fs.length:=by omega
 have e:w64 ((k:Int)+1)=((k+1:Nat):Int):=Qd Oo;refine .atN a ?_;rw[e];refine .ite (λc=>.go ⟨k+1,by rw[cnO_t a c,Qd Oo];rfl,a⟩ (by dsimp only;omega)) λc=>.go ⟨k+1,by rw[cnO_f a c],a⟩ (by dsimp only;omega)
theorem bvalid_c{s:Sp}(u:SpW s)(i:Inc):Qay s i=some (bP (ZL s/\FitP s i.seq i.belt i.first i.last i.words)):=by
 refine Gd.eq ?_;unfold Qay;refine .call (QfI s u) (.ite (λh=>?_) λh=>.f λk=>h (J6 k.1));have c:=QE.1 h;have x:=c.shp.hi;have y:=c.shp.small;refine .ite (λh=>.f λk=>by have:=k.2.1;omega) λE=>?_;refine .ite (λh=>.f λk=>by have:=k.2.1;omega) λF=>?_;refine .ite (λh=>.f λk=>by have:=k.2.2.1;omega) λG=>?_;refine .ite (λh=>.f λk=>by have:=k.2.2.1;omega) λH=>?_;refine .ite (λh=>.f λk=>by have:=k.2.2.2.1;omega) λI=>?_;refine .ite (λz=>?_) λz=>?_
 ·refine .ite (λp=>.b ?_) λp=>.f λk=>p (k.2.2.2.2.1 z).1;rw[decide_eq_true_iff];exact ⟨λC=>⟨c,⟨Oo,Oo⟩,⟨Oo,Oo⟩,⟨Oo,Oo⟩,λ_=>⟨p,C⟩,λh=>absurd z h⟩,λk=>(k.2.2.2.2.1 z).2⟩
 by_cases d:0<=i.first/\i.first<s.fs.length
 ·obtain ⟨m,a⟩:=chain_len c d.1 d.2;have a:IsLen s i.first m:=a;have b:i.first.toNat<s.fs.length:=by omega
  have v:ownF s.fs i.first=(s.fs[i.first.toNat]'b).ow:=by unfold ownF;rw[dif_pos ⟨d.1,b⟩]
  refine .call (clist_c c u a) ?_;by_cases g:ownF s.fs i.first = -1
  ·rw[if_pos g];refine .neg Od (.f λk=>?_);obtain ⟨_,_,l⟩:=k.2.2.2.2.2 z;have:=l.ow;omega
  ·rw[if_neg g];refine .pos rfl ?_;dsimp only;refine .ite (λh=>.f λk=>by have:=k.2.2.2.1;omega) λJ=>?_;have A:=a.1;have B:=a.2.1;rw[itL_len,Qd (n:=(m:Int)-1) Oo,show (m:Int)-1=((m-1:Nat):Int) by omega];refine .atN (by rw[itL_len];omega) ?_;have o:∀ h,(itL s i.first m)[m-1]'h=itF s.fs (m-1) i.first:=λh=>by simp only[itL,Va,UH]
   rw[o];refine .ite (λq=>?_) λq=>.f λk=>by obtain ⟨j,e,f⟩:=k.2.2.2.2.2 z;obtain rfl:=e.uniq a;exact q f.last
   refine .call (bfr_c c.shp.sh (by unfold I64;omega)) ?_;refine .ite (λr=>?_) λr=>.f λk=>by obtain ⟨j,e,f⟩:=k.2.2.2.2.2 z;obtain rfl:=e.uniq a;exact r f.len
   refine .call (bowns_c x _) ?_;refine .ite (λw=>?_) λw=>.f λk=>by obtain ⟨j,e,f⟩:=k.2.2.2.2.2 z;obtain rfl:=e.uniq a;exact w (by have:=f.cnt;omega)
   refine .at d.1 b ?_;refine .ite (λt=>?_) λt=>.f λk=>by obtain ⟨_,_,k⟩:=k.2.2.2.2.2 z;exact t k.ow
   rw[Qd (n:=i.belt*4294967296) Oo,Qd (n:=i.belt*4294967296+i.seq) Oo];refine .b ?_;rw[decide_eq_true_iff];exact ⟨λD=>⟨c,⟨Oo,Oo⟩,⟨Oo,Oo⟩,⟨Oo,Oo⟩,λh=>absurd h z,λ_=>⟨m,a,⟨d.1,b,t,D,r,Oo,q⟩⟩⟩,λk=>by
    obtain ⟨_,_,k⟩:=k.2.2.2.2.2 z
    exact k.st⟩
 ·refine .call (clist_no c u d) (.neg Od (.f λk=>?_));obtain ⟨_,_,l⟩:=k.2.2.2.2.2 z;have:=l.lo;have:=l.hi;exact d ⟨Oo,Oo⟩
theorem base_c{s:Sp}(a:Qc4 s){f:Int}(g:0<=f/\f<s.fs.length):Qaw s f=some (f*szS s,0):=by
 obtain ⟨c,d,e,i,j⟩:=QfM a g;have h:=a.hi;have b:XS s=some true:=by unfold XS;rw[shift_c,WQ,if_pos (J6 a.sh)];congr 1;exact decide_eq_true Oo
 unfold Qaw;rw[b,WQ,if_pos rfl,if_neg Oo,if_neg Oo,c,if_pos d,e]
theorem obs_len:∀ (l:List (Nat×Nat)) (p:Nat),(obs p l).length=l.length
 | [],p=>rfl
 | (a,b) :: l,p=>by show (obs _ l).length+1=_;rw[obs_len l];rfl
theorem walk_c{s:Sp}(e:ZL s)(D:SpW s){x:Itm}(f:QaD s x):Ja s x.i=some (Qdx s x,0):=by
 obtain ⟨T,U,V,W,X⟩:=e.shp.z;have S:=e.shp.small;have c:=f.room e.shp;have E:=f.inc.wd;obtain ⟨n,hn⟩:∃ n:Nat,x.i.words=n:=⟨x.i.words.toNat,Oo⟩;have a:=f.lay;rw[hn,Wd]at a c;have F:QaW s x.i []=some (0,Qdx s x,Qdx s x):=by
  refine Gd.eq ?_;unfold QaW;refine .call (bvalid_c D x.i) (.pos (J6 ⟨e,f.inc.fit e⟩) ?_);refine .ite (λR=>.some ?_) λR=>?_
  ·have:n=0:=by omega
   subst this;have G:x.os=[]:=by
    cases hos:x.os with
    | nil=>rfl
    | cons o l =>obtain ⟨r,d⟩:=o;rw[hos]at a;have:=a.2.2.2.le;omega
   unfold Qdx;rw[G];rfl
  ·have t:0<x.fr.length:=by
    rcases Ud x.fr.length with h1 | h1
    ·rw[h1]at c;omega
    ·exact h1
   obtain ⟨L,M,N⟩:=first_adr f.inc.toIncC t (szS s);refine .call (base_c e.shp ⟨L,M⟩) ?_;rw[N];refine Gd.bndR (P:=λz=>z = .inl (Qdx s x)) ?_ (λb m=>?_) (λr m=>by cases m)
   ·refine Gd.loop (λq:List Int×Int=>∃ (o1 o2:List (Nat×Nat)) (p:Nat),x.os=o1++o2/\Lay (szS s) s.ws x.fr 0 o1 p/\Lay (szS s) s.ws x.fr p o2 n/\q=((obs 0 o1).map (λ(o:Nat×Nat×Nat)=>((adr (szS s) x.fr o.1:Nat):Int)),(p:Int))/\o1.length<=p) _ (λq=>n-q.2.toNat) ⟨[],x.os,0,rfl,rfl,a,rfl,Wl _⟩ ?_;rintro q ⟨o1,o2,p,h1,h2,h,rfl,h5⟩;have H:=h.le;dsimp only;refine .ite (λA=>?_) λA=>.out ?_
    ·have A:p<n:=by omega
     cases o2 with
     | nil=>have h:p=n:=h;omega
     | cons o l =>
      obtain ⟨r,d⟩:=o;obtain ⟨O,Q,y,C⟩:=h;have B:=C.le;have i:=go_k (k:=p) e.shp f.inc.ch f.inc.own (p:=0) Oo;rw[WS]at i;have g:=Jo e.shp f.inc.ch.lt (show p<x.fr.length*szS s by omega);have I:=Jo e.shp f.inc.ch.lt (show 0<x.fr.length*szS s by omega);have u:ZF s ((adr (szS s) x.fr 0:Nat):Int) (p:Int)=some (((adr (szS s) x.fr p:Nat):Int),0):=by rw[step_c e D (by unfold I64;omega) (by unfold I64;omega),i]
      refine .call u (.pos rfl (.atN g ?_));have j:s.ws[adr (szS s) x.fr p]'g=hdW r d:=by rw[Wa g]at y;exact VD y
      rw[j];have J:U64 (hdW r d):=by unfold U64 hdW;omega
      refine .call (hdec_c J) ?_;rw[DecR_hd (show Qd4 (r:Int) (d:Int) from ⟨Oo,Oo,Oo,Oo⟩)];refine .pos rfl (.neg (by show ¬ false=true;decide) ?_);dsimp only;rw[Qd (n:=x.i.words-(p:Int)) Oo,Qd (n:=1+(r:Int)) Oo,Qd (n:=1+(r:Int)+d) Oo];refine .neg Oo ?_;have v:Z9 ((adr (szS s) x.fr p:Nat):Int) (1+(r:Int)+d) ((obs 0 o1).map (λ(o:Nat×Nat×Nat)=>((adr (szS s) x.fr o.1:Nat):Int)))=some (true,(obs 0 o1).map (λ(o:Nat×Nat×Nat)=>((adr (szS s) x.fr o.1:Nat):Int))++[((adr (szS s) x.fr p:Nat):Int)],(obs 0 o1).map (λ(o:Nat×Nat×Nat)=>((adr (szS s) x.fr o.1:Nat):Int))++[((adr (szS s) x.fr p:Nat):Int)]):=by unfold Z9;rw[if_pos (by rw[Wb,obs_len,WK];omega)]
      refine .call v (.pos rfl ?_);dsimp only;have K:w64 ((p:Int)+(1+(r:Int)+d))=((p+1+r+d:Nat):Int):=by rw[Qd Oo];push_cast;omega
      rw[K];refine .go ⟨o1++[(r,d)],l,p+1+r+d,by rw[h1,WP];rfl,h2.snoc O Q y,C,?_,by rw[We,WK];omega⟩ (by dsimp only;omega);rw[Qfj h2,WH];rfl
    ·have w:p=n:=by omega
     subst w;cases o2 with
     | nil =>rw[Vl]at h1;subst h1;rfl
     | cons o l =>obtain ⟨r,d⟩:=o;have:=h.2.2.2.le;omega
   ·injection m with m;rw[m];exact .some rfl
 refine Gd.eq ?_;unfold Ja;exact .call F (.pos rfl (.some rfl))
theorem has_c{l:List Qe}(n:Qo l)(z:QcE l){f t:Int}(q:Int)(x:0<=f/\f<64)(w:0<=t/\t<64):Qam l f t q=some (bP (InS l f t q)):=by
 have D:=z.1;have A:Z3 l f t=some (((X4 l ⟨f,t,[]⟩:Nat):Int),bP (∃ h:X4 l ⟨f,t,[]⟩ < l.length,l[X4 l ⟨f,t,[]⟩].frm=f/\l[X4 l ⟨f,t,[]⟩].to=t)):=by unfold Z3;rw[find_c n Oo (t:=⟨f,t,[]⟩) ⟨x.1,x.2,w.1,w.2⟩];rfl
 refine Gd.eq ?_;unfold Qam;refine .call A (.ite (λh=>?_) λh=>.f λk=>?_)
 ·obtain ⟨r,s,u⟩:=QE.1 h;have e:=Wc r;have c:=n.1 _ e;have E:=z.2 _ e;refine .atN r (.call (bs_c c.2.2.2.2 Oo q) (.b ?_));show bP _=true<->_;rw[QE];constructor
  ·rintro ⟨B,a⟩;exact ⟨_,e,s,u,a▸Wc B⟩
  ·rintro ⟨y,p,g,m,v⟩;have:y=l[X4 l ⟨f,t,[]⟩]:=n.uniq p e (g.trans s.symm) (m.trans u.symm);subst this;obtain ⟨j,d,a⟩:=WN.1 v;have o:Qbo l[X4 l ⟨f,t,[]⟩].slots q=j:=posI_of Oo (λi C b=>by rw[<- a];exact c.2.2.2.2.lt b d) (λ_=>by rw[a];omega);rw[o];exact ⟨d,a⟩
 ·obtain ⟨y,p,g,m,v⟩:=k;obtain ⟨j,d,a⟩:=WN.1 p;refine h (J6 ?_);have o:X4 l ⟨f,t,[]⟩=j:=posK_of Oo (λi C b=>by
   have:=n.lt b d
   unfold QT at this ⊢
   rw[a,g,m]at this
   exact this) (λ_=>by rw[a];unfold QT;dsimp only;omega)
  rw[o];exact ⟨d,by rw[a];exact g,by rw[a];exact m⟩
theorem rhas_c{l:List Qe}(p:QcE l)(f t q:Int):Qa1 l f t q=some (bP (InS l f t q)):=by
 have u:=p.1;refine Gd.eq ?_;unfold Qa1;refine Gd.bndR (P:=λr=>(r = .inr true/\InS l f t q)\/(r = .inl ()/\¬ InS l f t q)) ?_ (λb d=>.f ?_) (λr g=>?_)
 ·refine Gd.find l (λx=>x.frm=f/\x.to=t/\q∈x.slots) Oo (λi h a=>?_) (λa=>.inr ⟨rfl,λ⟨x,s,k⟩=>a x s k⟩);have v:=p.2 _ (Wc h);refine Gd.bndR (P:=λr=>(r = .inl ()/\¬ (l[i].frm=f/\l[i].to=t/\q∈l[i].slots))\/(r = .inr (.out (.inr true))/\(l[i].frm=f/\l[i].to=t/\q∈l[i].slots))) ?_ (λb d=>?_) (λr g=>?_)
  ·refine .atN h (.ite (λm=>.ite (λn=>?_) λn=>.some (.inl ⟨rfl,λk=>n k.2.1⟩)) λm=>.some (.inl ⟨rfl,λk=>m k.1⟩));refine Gd.find l[i].slots (λy=>y=q) Oo (λj o a=>.atN o (.ite (λe=>.some (.inr ⟨e,_,rfl,.inr ⟨rfl,m,n,e▸Wc o⟩⟩)) λe=>.some (.inl ⟨e,rfl⟩))) (λa=>.inl ⟨rfl,λk=>a q k.2.2 rfl⟩)
  ·rcases d with ⟨_,k⟩ | ⟨k,_⟩
   ·exact .some (.inl ⟨k,rfl⟩)
   ·cases k
  ·rcases g with ⟨k,_⟩ | ⟨k,c⟩
   ·cases k
   ·injection k with k;subst k;exact .inr ⟨c,_,rfl,.inl ⟨rfl,_,Wc h,c⟩⟩
 ·rcases d with ⟨k,_⟩ | ⟨_,k⟩
  ·cases k
  ·exact k
 ·rcases g with ⟨k,c⟩ | ⟨k,_⟩
  ·injection k with k;subst k;exact (J6 c).symm
  ·cases k
def MisP(s:Sp)(l:List Qe)(q:Int):Prop:=QaL s q (wAt s q)/\¬ InS l (X7 s q:Int) (X7 s (wAt s q-1):Int) q
def MkP(n:Nat)(P D:Int->Prop)(t:List Bool):Prop:=t.length=n/\∀ q:Nat,q<n->t[q]?=some (bP (D (q:Int)/\P (q:Int)))
theorem MkP.iff{n:Nat}{P D a:Int->Prop}{t:List Bool}(b:MkP n P D t)(d:∀ z,D z<->a z):MkP n P a t:=⟨b.1,λq c=>by rw[b.2 q c];congr 1;exact QdW (and_congr_left λ_=>d _)⟩
theorem MkP.set{n:Nat}{P D:Int->Prop}{t:List Bool}(a:MkP n P D t){q:Int}(f:0<=q)(g:q<n){b:Bool}(d:b=bP (P q)):MkP n P (λz=>D z\/z=q) (t.set q.toNat b):=by
 subst d;refine ⟨by rw[Wv];exact a.1,λz c=>?_⟩;by_cases e:z=q.toNat
 ·subst e;rw[WD (by rw[a.1];exact c),show ((q.toNat:Nat):Int)=q by omega];congr 1;exact QdW ⟨λk=>⟨.inr rfl,k⟩,λk=>k.2⟩
 ·rw[WC (λk=>e k.symm),a.2 z c];congr 1;refine QdW (and_congr_left λ_=>?_);exact ⟨.inl,λk=>k.elim id λk=>absurd Oo e⟩
theorem mk_for{α:Type}{n m:Nat}{P D:Int->Prop}(l:List α)(h:m=l.length)(o:l.length<=1000000)(E:α->Int->Prop){t:List Bool}{B:List Bool×Int->Option (LS (List Bool×Int) (List Bool))}(g:MkP n P D t)
  (f:∀ i (hi:i<l.length) (D':Int->Prop) t',MkP n P D' t'->Gd (λa=>∃ t'',a=LS.go (t'',w64 ((i:Int)+1))/\MkP n P (λz=>D' z\/E l[i] z) t'') (B (t',(i:Int)))) :
  Gd (MkP n P λz=>D z\/∃ a∈l,E a z) (Qh (λst:List Bool×Int=>if st.2<(m:Int) then B st else some (.out st.1)) (t,0)):=by
 subst h;refine Gd.for l.length (λ(t:List Bool) j=>(t,j)) (λi t=>MkP n P (λz=>D z\/∃ a∈l.take i,E a z) t) t rfl (λ_ _=>rfl) Oo (g.iff λz=>by simp) (λi hi c b=>?_) (λc b=>by rw[WR]at b;exact b);refine (f i hi _ c b).mono λa ha=>?_;obtain ⟨d,rfl,e⟩:=ha;refine .inl ⟨d,rfl,e.iff λz=>?_⟩;rw[QI hi];constructor
 ·rintro ((k | ⟨a,ha,k⟩) | k)
  ·exact .inl k
  ·exact .inr ⟨a,Wf _ ha,k⟩
  ·exact .inr ⟨_,Wj _ (Wo.2 rfl),k⟩
 ·rintro (k | ⟨a,ha,k⟩)
  ·exact .inl (.inl k)
  ·rcases Wn.1 ha with ha | ha
   ·exact .inl (.inr ⟨a,ha,k⟩)
   ·rw[Wo.1 ha]at k;exact .inr k
theorem app_for{α:Type}{m N:Nat}(l:List α)(g:m=l.length)(n:l.length<=1000000)(G:α->List Int){t:List Int}{B:List Int×Int->Option (LS (List Int×Int) (List Int))}(k:(t++l.flatMap G).length<=N)
  (h:∀ i (hi:i<l.length) t',(t'++G l[i]).length<=N->Gd (λa=>a=LS.go (t'++G l[i],w64 ((i:Int)+1))) (B (t',(i:Int)))) :
  Gd (λr=>r=t++l.flatMap G) (Qh (λst:List Int×Int=>if st.2<(m:Int) then B st else some (.out st.1)) (t,0)):=by
 subst g;refine Gd.for l.length (λ(t:List Int) j=>(t,j)) (λi t'=>t'=t++(l.take i).flatMap G) t rfl (λ_ _=>rfl) Oo Os (λi hi c b=>?_) (λc b=>by rw[WR]at b;exact b);have e:c++G l[i]=t++(l.take (i+1)).flatMap G:=by rw[QI hi,Yv,b,WP];simp
 refine (h i hi c ?_).mono λa f=>.inl ⟨_,f,e⟩;rw[e];have d:l.flatMap G=(l.take (i+1)).flatMap G++(l.drop (i+1)).flatMap G:=by rw[<- Yv,Vu]
 rw[d,<- WP,We]at k;omega
theorem QeP{α β:Type}(g:α->List β):∀ BL:List (List α),BL.flatten.flatMap g=BL.flatMap λb=>b.flatMap g
 | []=>rfl
 | b :: BL=>by rw[Vi,Yv,QeP g BL,VJ]
theorem Qb0{α β:Type}(g:α->List β)(p:β->Bool):∀ l:List α,(l.flatMap g).filter p=l.flatMap λa=>(g a).filter p
 | []=>rfl
 | a :: l=>by rw[VJ,VA,Qb0 g p l,VJ]
theorem Qgh{α:Type}(p:α->Bool):∀ l:List α,(l.flatMap λy=>if p y=true then [y] else [])=l.filter p
 | []=>rfl
 | a :: l=>by
  rw[VJ,Qgh p l];by_cases h:p a=true
  ·rw[if_pos h,Yd h];rfl
  ·rw[if_neg h,Ye h];rfl
theorem srt_lt{l:List Int}(h:l.Nodup):(QeR l).Pairwise (· < ·):=by have a:(QeR l).Nodup:=(List.mergeSort_perm l _).nodup_iff.2 h;exact ((srt_le l).and a).imp λk=>by omega
theorem nodup_lenI{l:List Int}(h:l.Nodup){n:Nat}(b:∀ x∈l,0<=x/\x<n):l.length<=n:=by rw[<- srt_len];exact asc_len (Wy.1 (srt_lt h)) λx a=>b x (srt_mem.1 a)
section
variable{h:Hp}{BL:List (List Itm)}
theorem adrs_lenJ(H:QG h BL){x:Itm}(b:x∈BL.flatten):(Qdx h.space x).length<=16384:=by have a:=H.sp.each x b;unfold Qdx;rw[Wb,obs_len];have c:=a.lay.len';have d:=a.inc.wd;have e:=Z7 H.sp.ok;omega
theorem adrs_rngJ(H:QG h BL){x:Itm}(g:x∈BL.flatten):∀ a∈Qdx h.space x,I64 a:=λa e=>by unfold Qdx at e;obtain ⟨⟨p,r,d⟩,f,rfl⟩:=Wk.1 e;have c:=H.sp.each x g;have b:=Itm.posOk H.sp.ok c f;have:=Jo H.sp.ok.shp c.inc.ch.lt (p:=p) Oo;have i:=Z7 H.sp.ok;dsimp only;unfold I64;omega
theorem memB{i:Nat}(a:i<BL.length){x:Itm}(b:x∈BL[i]):x∈BL.flatten:=Vb.2 ⟨_,Wc a,b⟩
def misW(s:Sp)(l:List Qe)(a:List (List Itm)):List Int:=(slsB s a.flatten).filter λq=>bP (MisP s l q)
theorem misW_eq(s:Sp)(l:List Qe):misW s l BL=BL.flatMap λb=>b.flatMap λx=>(Qdx s x).flatMap λa=>(Qb8 s a).1.flatMap λq=>if bP (MisP s l q)=true then [q] else []:=by unfold misW slsB slsX;rw[QeP,Qb0];congr 1;funext b;rw[Qb0];congr 1;funext x;rw[Qb0];congr 1;funext a;rw[Qgh]
theorem slsB_rng(H:QG h BL){q:Int}(b:q∈slsB h.space BL.flatten):0<=q/\q<h.space.ws.length:=by obtain ⟨x,a,k⟩:=(slsB_mem H).1 b;have:=QdN H a k;exact ⟨this.1,this.2.1⟩
theorem misW_nodup(H:QG h BL)(l:List Qe):(misW h.space l BL).Nodup:=(slsB_nodup H).filter _
theorem misW_len(H:QG h BL)(l:List Qe):(misW h.space l BL).length<=16384:=by have b:=Z7 H.sp.ok;have:=nodup_lenI (misW_nodup H l) (n:=h.space.ws.length) λq a=>slsB_rng H (WI.1 a).1;omega
def misL(s:Sp)(l:List Qe)(a:List (List Itm)):List Int:=QeR (misW s l a)
theorem misL_mem(H:QG h BL)(l:List Qe){q:Int}:q∈misL h.space l BL<->(∃ x∈BL.flatten,SlotX h.space x q)/\MisP h.space l q:=by unfold misL misW;rw[srt_mem,WI,QE,slsB_mem H]
theorem missing_c(H:QG h BL){l:List Qe}(W:Qo l)(X:QcE l):ZW h.space h.belts l=some (misL h.space l BL):=by
 have d:=H.sp.ok;have u:=H.sp.w;have R:=Z7 d;have E:=H.count;have S:=H.bsz.1;refine Gd.eq ?_;unfold ZW;have w:=misW_len H l;rw[misW_eq]at w;refine Gd.bind (P:=λr=>r=[]++BL.flatMap λb=>b.flatMap λx=>(Qdx h.space x).flatMap λa=>(Qb8 h.space a).1.flatMap λq=>if bP (MisP h.space l q)=true then [q] else []) ?_ λb e=>?_
 ·have y:h.belts.length=BL.length:=by rw[H.bl,Wb]
  refine app_for (N:=16384) BL y Oo _ (by rw[VV];exact w) λi L t D=>?_;dsimp only;have T:(BL[i]).length<=64:=by have:=YS (Yw (Wc L));omega
  refine Gd.bind (P:=λr=>r=t++(BL[i]).flatMap λx=>(Qdx h.space x).flatMap λa=>(Qb8 h.space a).1.flatMap λq=>if bP (MisP h.space l q)=true then [q] else []) ?_ λb e=>.some (by rw[e]);refine Gd.atN (l:=h.belts) (i:=i) Oo ?_;have z:h.belts[i]' Oo=(BL[i]).map Itm.i:=by simp only[H.bl,Va]
  rw[z];refine app_for (N:=16384) (BL[i]) (by rw[Wb]) Oo _ D λj M t p=>?_;dsimp only;have B:=memB L (Wc M);refine Gd.bind (P:=λr=>r=t++(Qdx h.space (BL[i])[j]).flatMap λa=>(Qb8 h.space a).1.flatMap λq=>if bP (MisP h.space l q)=true then [q] else []) ?_ λb e=>.some (by rw[e]);refine .atN (by rw[Wb];exact M) ?_;rw[Va];refine .call (walk_c d u (H.sp.each _ B)) ?_;dsimp only;have C:=adrs_lenJ H B;have m:=adrs_rngJ H B;generalize Qdx h.space (BL[i])[j]=A at p C m;refine app_for (N:=16384) A rfl Oo _ p λk O t s=>?_;dsimp only;refine Gd.bind (P:=λr=>r=t++(Qb8 h.space A[k]).1.flatMap λq=>if bP (MisP h.space l q)=true then [q] else []) ?_ λb e=>.some (by rw[e]);refine .atN O (.call (slots_c d u (m _ (Wc O))) ?_);obtain ⟨V,J⟩:=flds_rng d u (a:=A[k]);generalize (Qb8 h.space A[k]).1=F at V J s;refine app_for (N:=16384) F rfl Oo _ s λn Q t f=>?_;dsimp only;obtain ⟨v,K⟩:=J _ (Wc Q);have G:wAt h.space F[n]=h.space.ws[(F[n]).toNat]' Oo:=QdL v Oo;refine .atN Q (.at v Oo ?_);rw[<- G];have I:=QfH u F[n];clear G;generalize F[n]=q at v K I f;have o:0<=wAt h.space q/\wAt h.space q<=18446744073709551615:=I;refine .call (pair_c d o) (.call (QfY d o) (.ite (λc=>?_) λc=>?_))
  ·have c:=QE.1 c;have U:=c.1;rw[if_pos U];dsimp only;refine .call (has_c W X q (frOf_in d v K) (frOf_in d Oo Oo)) (.ite (λg=>?_) λg=>?_)
   ·have:¬ MisP h.space l q:=λk=>k.2 (QE.1 g);rw[Qdg this,if_neg Od,Vl];exact .some rfl
   ·have:MisP h.space l q:=⟨c,λk=>g (J6 k)⟩;rw[J6 this,if_pos rfl]at f ⊢;have:t.length<=16384:=by rw[We]at f;omega
    exact .pos (X9 Oo Oo) (.some rfl)
  ·have:¬ MisP h.space l q:=λk=>c (J6 k.1);rw[Qdg this,if_neg Od,Vl];exact .some rfl
 ·rw[VV,<- misW_eq]at e;rw[<- misW_eq]at w;subst e;have z:JJ (misW h.space l BL)=some (misL h.space l BL):=by unfold JJ;rw[if_pos Oo];rfl
  exact .call z (.pos (srt_len _) (.some rfl))
theorem rmissing_c(H:QG h BL){l:List Qe}(hz:QcE l):XJ h.space h.belts l=some (misL h.space l BL):=by
 have y:=H.sp.ok;have J:=H.sp.w;have aa:=Z7 y;have U:=H.count;have ab:=H.bsz.1;refine Gd.eq ?_;unfold XJ;refine .pos Oo ?_;refine Gd.bind (P:=MkP h.space.ws.length (MisP h.space l) λz=>False\/∃ b∈BL,∃ x∈b,∃ a∈Qdx h.space x,∃ q∈(Qb8 h.space a).1,z=q) ?_ λt d=>?_
 ·have K:h.belts.length=BL.length:=by rw[H.bl,Wb]
  refine mk_for BL K Oo (λb z=>∃ x∈b,∃ a∈Qdx h.space x,∃ q∈(Qb8 h.space a).1,z=q) (D:=λ_=>False) ⟨Ve,λq N=>by
   rw[Wd,VR,if_pos N]
   congr 1
   exact (Qdg λk=>k.1).symm⟩ λi B D t d=>?_
  dsimp only;have ac:(BL[i]).length<=64:=by have:=YS (Yw (Wc B));omega
  refine Gd.bind (P:=MkP h.space.ws.length (MisP h.space l) λz=>D z\/∃ x∈BL[i],∃ a∈Qdx h.space x,∃ q∈(Qb8 h.space a).1,z=q) ?_ λt d=>.some ⟨t,rfl,d⟩;refine Gd.atN (l:=h.belts) (i:=i) Oo ?_;have e1:h.belts[i]' Oo=(BL[i]).map Itm.i:=by simp only[H.bl,Va]
  rw[e1];refine mk_for (BL[i]) (by rw[Wb]) Oo (λx z=>∃ a∈Qdx h.space x,∃ q∈(Qb8 h.space a).1,z=q) d λj Z D t d=>?_;dsimp only;have g:=memB B (Wc Z);refine Gd.bind (P:=MkP h.space.ws.length (MisP h.space l) λz=>D z\/∃ a∈Qdx h.space (BL[i])[j],∃ q∈(Qb8 h.space a).1,z=q) ?_ λt d=>.some ⟨t,rfl,d⟩;refine .atN (by rw[Wb];exact Z) ?_;rw[Va];refine .call (all_spec y J (H.sp.each _ g)) ?_;dsimp only;have L:=adrs_lenJ H g;have C:=adrs_rngJ H g;generalize Qdx h.space (BL[i])[j]=A at L C;refine mk_for A rfl Oo (λa z=>∃ q∈(Qb8 h.space a).1,z=q) d λk hk D t d=>?_;dsimp only;refine Gd.bind (P:=MkP h.space.ws.length (MisP h.space l) λz=>D z\/∃ q∈(Qb8 h.space A[k]).1,z=q) ?_ λt d=>.some ⟨t,rfl,d⟩;refine .atN hk (.call (fields_c y.shp (Ze y.fm) J (C _ (Wc hk))) ?_);obtain ⟨f1,X⟩:=flds_rng y J (a:=A[k]);generalize (Qb8 h.space A[k]).1=F at f1 X;refine mk_for F rfl Oo (λq z=>z=q) d λn hn D t d=>?_;dsimp only;obtain ⟨m,s⟩:=X _ (Wc hn);have f:wAt h.space F[n]=h.space.ws[(F[n]).toNat]' Oo:=QdL m Oo;refine .atN hn (.at m Oo ?_);rw[<- f];have V:=QfH J F[n];clear f;generalize F[n]=q at m s V;have M:0<=wAt h.space q/\wAt h.space q<=18446744073709551615:=V;refine .call (rpair_c y M) ?_
  have r:q.toNat<t.length:=by rw[d.1];omega
  by_cases u:¬ wAt h.space q=0/\wAt h.space q<=h.space.ws.length/\0<=q/\q<h.space.ws.length
  ·rw[if_pos u];dsimp only;refine .ite (λv=>?_) λv=>.at m r (.some ⟨_,rfl,d.set m s (Qdg λk=>v (J6 k.1)).symm⟩);refine .call (rhas_c hz _ _ _) (.at m r (.some ⟨_,rfl,d.set m s ?_⟩));by_cases o:InS l (X7 h.space q:Int) (X7 h.space (wAt h.space q-1):Int) q
   ·rw[J6 o,Qdg λk:MisP h.space l q=>k.2 o];rfl
   ·rw[Qdg o,J6 (show MisP h.space l q from ⟨QE.1 v,o⟩)];rfl
  ·rw[if_neg u];dsimp only;exact .neg Od (.at m r (.some ⟨_,rfl,d.set m s (Qdg λk=>u k.1.1).symm⟩))
 ·have E:t.length=h.space.ws.length:=d.1;refine Gd.bind (P:=λw=>w=((List.range t.length).filter λq=>t[q]? == some true).map λ(q:Nat)=>(q:Int)) ?_ λw f=>?_
  ·refine Gd.for t.length (λ(w:List Int) i=>(w,i)) (λi w=>w=((List.range i).filter λq=>t[q]? == some true).map λ(q:Nat)=>(q:Int)) [] rfl (λ_ _=>rfl) Oo Os (λi B w f=>?_) (λw f=>f);have W:w.length<=i:=by rw[f,Wb];have:=W8 (λq=>t[q]? == some true) (List.range i);rwa [WV]at this
   have G:((List.range (i+1)).filter λq=>t[q]? == some true).map (λ(q:Nat)=>(q:Int))=w++if t[i]=true then [(i:Int)] else []:=by
    rw[Ua,VA,WH,<- f];congr 1;by_cases e:t[i]=true
    ·rw[if_pos e,Yd (by rw[Wa B,e];rfl)];rfl
    ·rw[if_neg e,Ye (by rw[Wa B];simp[e])];rfl
   refine .atN B (.ite (λe=>.pos (X9 (l:=w) Oo Oo) (.some (.inl ⟨w++[(i:Int)],rfl,?_⟩))) λe=>.some (.inl ⟨w,rfl,?_⟩))
   ·rw[G,if_pos e]
   ·rw[G,if_neg e,Vl]
  ·refine .some ?_;refine asc_ext (R:=λ(a b:Int)=>a<b) (λa=>by omega) (λ{a b c} h1 h2=>by omega) ?_ (srt_lt (misW_nodup H l)) λz=>?_
   ·rw[f,Vc];refine (Yr _ List.pairwise_lt_range).imp λk=>by omega
   ·rw[misL_mem H,f,Wk];constructor
    ·rintro ⟨q,N,rfl⟩;obtain ⟨s,Y⟩:=WI.1 N;rw[Wz,E]at s;rw[d.2 q s]at Y;obtain ⟨O,k2⟩:=QE.1 (VD (eq_of_beq Y));rcases O with O | ⟨b,Q,x,g,a,T,p,u,e⟩
     ·exact O.elim
     ·have I:x∈BL.flatten:=Vb.2 ⟨b,Q,g⟩;exact ⟨⟨x,I,(fld_mem H I).1 ⟨a,T,e▸u⟩⟩,k2⟩
    ·rintro ⟨⟨x,g,k⟩,hm⟩;obtain ⟨z0,z1,_⟩:=QdN H g k;obtain ⟨b,Q,S⟩:=Vb.1 g;obtain ⟨a,T,u⟩:=(fld_mem H g).2 k;obtain ⟨q,rfl⟩:∃ q:Nat,z=q:=⟨z.toNat,Oo⟩;refine ⟨q,WI.2 ⟨by rw[Wz,E];omega,?_⟩,rfl⟩;rw[d.2 q Oo,J6 ⟨.inr ⟨b,Q,x,S,a,T,_,u,rfl⟩,hm⟩];rfl
end
def awS:Sp:=⟨3,List.replicate 24 0,[⟨5,5,-1⟩,⟨2,4294967298,-1⟩,⟨-1,-1,-1⟩]⟩
theorem awS_ok:ZL awS:=by
 have c:∀ i (h:i<awS.fs.length),awS.fs[i].nx = -1:=λi h=>by
  have h:i<3:=h;match i,h with
  | 0,_=>rfl
  | 1,_=>rfl
  | 2,_=>rfl
 refine ⟨⟨by unfold Qcp;exact ⟨Od,Od⟩,Od,Od,rfl⟩,λi h=>?_,λi j b d _ _ _=>c i b,λi b=>?_⟩
 ·have f:i<3:=h;match i,f with
  | 0,_=>exact .inr (show Qez awS 0 ⟨5,5,-1⟩ from ⟨⟨Od,Od,0,Od,Od,Od⟩,Od,Od,Od,λj d e=>by have e:(-1:Int)=j:=e;omega⟩)
  | 1,_=>exact .inr (show Qez awS 1 ⟨2,4294967298,-1⟩ from ⟨⟨Od,Od,1,Od,Od,Od⟩,Od,Od,Od,λj d e=>by have e:(-1:Int)=j:=e;omega⟩)
  | 2,_=>exact .inl ⟨rfl,rfl,rfl,λa g _ _=>Uz (show awS.ws[a]∈List.replicate 24 (0:Int) from Wc g)⟩
 ·rw[QbW b,c i b];exact Xz _ rfl
theorem awS_w:SpW awS:=by
 refine ⟨λx b=>?_,λf a=>?_⟩
 ·have:=Uz (show x∈List.replicate 24 (0:Int) from b);subst this;unfold U64;omega
 ·have a:f∈[(⟨5,5,-1⟩:Fe),⟨2,4294967298,-1⟩,⟨-1,-1,-1⟩]:=a;simp only[Wt,Vx,or_false]at a;unfold I64;rcases a with rfl | rfl | rfl <;> decide
theorem sets_nil:Qo []:=⟨λx a=>(by cases a),λi h=>(by simp at h)⟩
theorem put_nil(f t s:Int):putK [] f t s=[⟨f,t,[s]⟩]:=by unfold putK;rw[dif_neg λ⟨h,_⟩=>by simp at h];rfl
theorem awake_c:JZ=some true:=by
 refine Gd.eq ?_;unfold JZ;refine .call (new_spec (k:=3) (n:=3) (by unfold Qcp;omega) Oo) ?_;have e:(Sp.mk (newS 3 (3:Int).toNat).sh (newS 3 (3:Int).toNat).ws ((((newS 3 (3:Int).toNat).fs.set (Int.toNat 0) (Fe.mk 5 5 (-1))).set (Int.toNat 1) (Fe.mk 2 4294967298 (-1)))))=awS:=rfl;dsimp only;refine .at0 Od (.at1 Od ?_);rw[e];have a:QaL awS 9 1:=⟨⟨Od,Od,Od,Od⟩,Od,Od,Od,Od,Od⟩;have b:¬ QaL awS 1 10:=λ⟨_,_,_,_,_,h⟩=>by have h:(4294967298:Int)<5:=h;omega
 have c:¬ QaL awS 9 0:=λh=>h.1.1 rfl;refine .call (record_c awS_w (l:=[]) Od (λx f=>by cases f) Oo) ?_;refine .call (QfY awS_ok Oo) (.pos (J6 a) ?_);refine .call (QfY awS_ok Oo) (.neg (by rw[Qdg b];decide) ?_);refine .call (QfY awS_ok Oo) (.neg (by rw[Qdg c];decide) ?_);have d:RecR awS [] 9 1=([⟨1,0,[9]⟩],0):=by unfold RecR;rw[if_pos ⟨awS_ok,sets_nil⟩,if_pos a,put_nil];rfl
 rw[d];refine .pos rfl (.pos rfl (.at0 (l:=([⟨1,0,[9]⟩]:List Qe)) Od (.pos rfl (.some rfl))))
theorem Qo.sub{l c:List Qe}(h:Qo l)(d:QcE l)(a:c.Sublist l):Qo c/\QcE c:=by obtain ⟨e,f⟩:=Qo.pw.1 h;refine ⟨Qo.pw.2 ⟨λx b=>e x (a.subset b),f.sublist a⟩,?_,λx b=>d.2 x (a.subset b)⟩;have:=a.length_le;have:=d.1;omega
theorem Qdw{l:List Int}{k:Int}(G:∀ x∈l,I64 x)(I:l.length<=9223372036854775807)(F:I64 k):Zs l k=some true:=by
 obtain ⟨d,y,z⟩:=new_deck G I;refine Gd.eq ?_;unfold Zs;refine .call y (.bind (heap_g z) λr o=>?_);obtain ⟨c,A⟩:=o;obtain ⟨B,H⟩:=A.inv;generalize r.1=h at H;have t:=H.sok.len;have a:=H.sok.sz H.sin;refine .pos Oo ?_;refine Gd.bind (P:=λb=>Qo b/\QcE b) ?_ λb D=>?_
 ·refine .ite (λE=>?_) λE=>.some ⟨H.sok,a⟩;refine .call (mod_c F (n:=(h.sets.length:Int)) Oo) ?_;have f:=V3 k (show (h.sets.length:Int)≠0 by omega);have g:=V4 k (show 0<(h.sets.length:Int) by omega);generalize k%(h.sets.length:Int)=mi at f g;obtain ⟨m,rfl⟩:∃ m:Nat,mi=(m:Int):=⟨mi.toNat,Oo⟩;have u:w64 ((m:Int)+1)=((m+1:Nat):Int):=Qd Oo;rw[u];refine .pos Oo (.pos Oo (.pos Oo (.pos Oo (.some ?_))));rw[Wd,Wd,Wd,WR];refine H.sok.sub a ?_;have v:(h.sets.drop (m+1)).Sublist (h.sets.drop m):=by rw[<- Y8];exact List.drop_sublist _ _
  have w:=List.Sublist.append (List.Sublist.refl (h.sets.take m)) v;rwa [Vu]at w
 ·obtain ⟨L,hL⟩:∃ L:List (List Qe),L=[h.sets,b,[]]:=⟨_,rfl⟩;rw[<- hL];have e:∀ x∈L,Qo x/\QcE x:=by
   intro x hx;rw[hL]at hx;rcases Wt.1 hx with rfl | hx
   ·exact ⟨H.sok,a⟩
   rcases Wt.1 hx with rfl | hx
   ·exact D
   rw[Wo.1 hx];exact H.sok.sub a (List.nil_sublist _)
  have p:L.length=3:=by rw[hL];rfl
  refine Gd.bndR (P:=λr=>r = .inl ()) ?_ (λb _=>.call awake_c (.some rfl)) (λr o=>by cases o);refine Gd.for L.length (λ(_:Unit) i=>i) (λ_ _=>True) () rfl (λ_ _=>rfl) Oo trivial (λi s _ _=>?_) (λ_ _=>rfl);obtain ⟨C,q⟩:=e _ (Wc s);have j:(misL h.space L[i] B).length<=16384:=by have:=misW_len H L[i];unfold misL;rw[srt_len];exact this
  exact .atN s (.call (missing_c H C q) (.call (rmissing_c H q) (.call (same_ints_c _ Oo) (.pos rfl (.some (.inl ⟨(),rfl,trivial⟩))))))
open Go.RowKit Go.ChangeShapes Go.WideShapes Go.Deep
abbrev mem0(w:World):Mem:=⟨w,λ_=>False,λ_=>none⟩
theorem mem0_no(w:World)(k:Nat):¬ (mem0 w).no k:=λh=>by
 rcases h with h | ⟨s,e,h,_⟩
 ·exact h
 ·cases h
theorem Reps.nil'{m:Mem}:Reps m [] []:=⟨rfl,λi v d h=>by simp at h⟩
theorem Reps.cons'{m:Mem}{v:Value}{d:DV}{vs:List Value}{ds:List DV}(h:Rep m v d)(c:Reps m vs ds):Reps m (v :: vs) (d :: ds):=⟨by rw[WX,WX,c.1],λi u e a b=>by
 cases i with
 | zero =>
  simp only[WJ,Wx]at a b
  subst a
  subst b
  exact h
 | succ i=>exact c.2 i u e (by simpa using a) (by simpa using b)⟩
def TabW(w:World):Prop:=TabF ⟨w,Xof (λ_=>none),Yof (λ_=>none)⟩ (λ_=>False)
theorem DCall.walk{P:Program}{f:FuncId}{ds:List DV}(h:DCall P f ds [] (DB true) []){w:World}{vs:List Value}(n:Reps (mem0 w) vs ds)(b:TabW w:=by first | exact TabF.none rfl | assumption):Calls P f vs.toArray w λe w'=>e = .returned (.bool true)/\Below w.heap.size w w':=by
 have d:∀ k,¬ Xof (λ_=>none) k:=λk ⟨s,e,h,_⟩=>by cases h
 have i:Inv ⟨w,Xof (λ_=>none),Yof (λ_=>none)⟩ (mem0 w):=⟨rfl,rfl,rfl,Wl _,λ_ _ _=>rfl,λs o e p g h=>(by cases h),λs e g h=>(by cases h),λk h=>False.elim h,λs e g c h=>(by cases h),b⟩;refine Calls.mono (h.2 w (λ_=>False) (λ_=>none) vs i (λs q h=>by cases h) (λ_ _=>rfl) n) λe w' ⟨v,r,j,a,t,l,u,x⟩=>?_;subst j;rw[l.lit_inv];exact ⟨rfl,a.os,a.tape,a.output,a.size,λk m=>a.old k m (d k)⟩
def CRd(w:World)(cs:List Value)(ds:List DV):Prop:=cs.length=ds.length/\∀ (i:Nat) v d,cs[i]?=some v->ds[i]?=some d->PRep w (mem0 w).no v d
theorem CRd.one{w:World}{v:Value}{d:DV}(h:PRep w (mem0 w).no v d):CRd w [v] [d]:=⟨rfl,λi u e a b=>by
 cases i with
 | zero =>
  simp only[WJ,Wx]at a b
  subst a
  subst b
  exact h
 | succ i=>simp at a⟩
theorem CRd.get{w:World}{v:Value}{d:DV}(h:CRd w [v] [d]):PRep w (mem0 w).no v d:=h.2 0 v d rfl rfl
theorem CRd.append{w:World}{cs a:List Value}{ds b:List DV}(h:CRd w cs ds)(g:CRd w a b):CRd w (cs++a) (ds++b):=by
 refine ⟨by rw[We,We,h.1,g.1],λi v d c e=>?_⟩;by_cases f:i<cs.length
 ·rw[WM f]at c;rw[WM (by rw[<- h.1];exact f)]at e;exact h.2 i v d c e
 ·rw[WO Oo]at c;rw[WO (by rw[<- h.1];omega),<- h.1]at e;exact g.2 _ v d c e
section
variable{P:Program}
def OpD{α:Type}(P:Program)(t:TypeId)(c:α->List DV)(b:α->Prop):Prop := ∀ (H:Type) (enc:TypeId×Value->H) (w:World) (base:Nat) (spare:Nat->Bool) (held:Bool) (fuel:Nat) (cs:List Value) (x:DataW H×List MemPlace), DataW.trod enc P w base spare held fuel t cs=some x->∃ a,CRd w cs (c a)/\b a
theorem OpD.i64{t:TypeId}(g:P.underlying t=some (.int .i64)):OpD P t iC I64:=by intro H f w b a c d i x h;obtain ⟨n,rfl,_,e⟩:=DataW.trod_int g h;refine ⟨n,CRd.one (.lit _ rfl),?_⟩;simp[Lit.wf,IntKind.min,IntKind.max,IntKind.bits,IntKind.signed]at e;unfold I64;omega
theorem OpD.u64{t:TypeId}(g:P.underlying t=some (.int .u64)):OpD P t uC U64:=by intro H f w b a c d i x h;obtain ⟨n,rfl,_,e⟩:=DataW.trod_int g h;refine ⟨n,CRd.one (.lit _ rfl),?_⟩;simp[Lit.wf,IntKind.min,IntKind.max,IntKind.bits,IntKind.signed]at e;unfold U64;omega
theorem OpD.bool{t:TypeId}(f:P.underlying t=some .bool):OpD P t bC λ_=>True:=by intro H e w b a c d g x h;obtain ⟨n,rfl,_⟩:=DataW.trod_bool f h;exact ⟨n,CRd.one (.lit _ rfl),trivial⟩
theorem choose_listD{α:Type}{n:Nat}{p:Nat->α->Prop}(h:∀ i,i<n->∃ a,p i a):∃ l:List α,l.length=n/\∀ i (c:i<l.length),p i l[i]:=by
 induction n with
 | zero=>exact ⟨[],rfl,λi c=>absurd c (WZ _)⟩
 | succ n ih =>
  obtain ⟨l,d,e⟩:=ih λi c=>h i Oo;obtain ⟨a,f⟩:=h n Oo;refine ⟨l++[a],by simp[d],λi c=>?_⟩;by_cases b:i<l.length
  ·rw[YG b];exact e i b
  ·have:i=n:=by simp at c;omega
   subst this;rw[U0 Oo];simpa using f
theorem OpD.slice{α:Type}{c:α->List DV}{ok:α->Prop}{t e sz:Nat}(ht:P.underlying t=some (.slice e))(hc:P.cellsOf e=sz)(hp:0<sz)(N:∀ a,(c a).length=sz)(h:OpD P e c ok):OpD P t (lC c) λxs=>(∀ x∈xs,ok x)/\xs.length<=9223372036854775807:=by
 intro H ab w L G M ad cs x o;rcases open_slice ht o with ⟨rfl,_⟩ | ⟨a,F,X,m,n,D,Pl,rfl,hb,hl,Y,Z,_,aa⟩
 ·exact ⟨[],CRd.one (.nil none 0 (WT _)),(λx o=>by cases o),Os⟩
 ·have ae:F<=m:=by rw[Z];split <;> omega
  obtain ⟨l,S,C⟩:=choose_listD (n:=F) (p:=λi y=>ok y/\∃ f,CRd w f (c y)/\∀ j,j<sz->w.cell? (a.add (i*sz+j))=f[j]?) λi z=>by obtain ⟨f,h1,h2⟩:=aa i Oo;obtain ⟨y,hy,T⟩:=h H ab w L G M n f _ h2;rw[hc]at h1;obtain ⟨_,ac,E⟩:=World.cells?_some h1;refine ⟨y,T,f,hy,λj hj=>?_⟩;have:=E j Oo;rw[add_add]at this;rw[this]
  refine ⟨l,CRd.one ?_,λx o=>?_,by unfold maxLen at Y;omega⟩
  ·by_cases h0:F=0
   ·have:l=[]:=Vp.1 Oo;subst this;subst h0;exact .nil _ _ Y
   ·obtain ⟨b,r,J⟩:=a;obtain ⟨_,U,V,K⟩:=C 0 Oo;have af:U.length=sz:=by rw[V.1,N]
    have q:=K 0 hp;rw[Wa Oo]at q;have A:J=none:=by have:=World.cell?_spot q;simpa [Addr.add] using this
    subst A;have v:∀ k,(⟨b,r,none⟩:Addr).add k=⟨b,r+k,none⟩:=λk=>add_lit;rw[v]at q;have O:=World.block_lt_of_cell? w (a:=_) (u:=_) q;have hf:∀ i,∃ g:Nat->Value,i<l.length->∀ j d,((l.map c)[i]?).bind (·[j]?)=some d->w.cell? ⟨b,r+i*sz+j,none⟩=some (g j)/\PRep w (mem0 w).no (g j) d:=λi=>by
     by_cases z:i<l.length
     ·obtain ⟨_,f,hr,W⟩:=C i z;refine ⟨λj=>f.getD j undef,λ_ j d s=>?_⟩;rw[Wh,Wa z]at s;simp only[Wu,WQ]at s;have hj:j<sz:=by
       rw[<- N l[i]];rcases Ws j (c l[i]).length with h' | h'
       ·exact h'
       ·rw[Wg h']at s;cases s
      have ag:f.length=sz:=by rw[hr.1,N]
      have I:=W j hj;rw[Wa Oo,v]at I;have Q:f.getD j undef=f[j]' Oo:=by simp[List.getD,show j<f.length by omega]
      dsimp only;rw[Q,Vf];exact ⟨I,hr.2 j _ d (Wa Oo) s⟩
     ·exact ⟨λ_=>undef,λh=>absurd h z⟩
    have R:=Classical.axiomOfChoice hf;obtain ⟨g,hg⟩:=R;have B:∀ (i:Nat) (x:List DV),(l.map c)[i]?=some x->i<l.length:=λi x o=>by
     rcases Ws i l.length with h' | h'
     ·exact h'
     ·rw[Wg (by simpa using h')]at o;cases o
    have:=PRep.sl (w:=w) (no:=(mem0 w).no) b r X sz (l.map c) g hp (by rw[Wb];omega) (by rw[Wb];omega) Y (mem0_no w b) O (λi x o=>by
     have z:=B i x o
     rw[Wh,Wa z]at o
     simp only[Wu,Wx]at o
     rw[<- o,N]) (λi x j d o s=>(hg i (B i x o) j d (by rw[o];exact s)).1) (λi x j d o s=>(hg i (B i x o) j d (by rw[o];exact s)).2)
    rw[Wb,S]at this;exact this
  ·obtain ⟨i,z,rfl⟩:=UB o;exact (C i z).1
inductive FOpD(P:Program):{α:Type}->List Field->Nat->(α->List DV)->Nat->(α->Prop)->Prop
 | nil {off:Nat}:FOpD P [] off (λ_:Unit=>[]) 0 λ_=>True
 | cons {α β:Type} {f:Field} {fs:List Field} {off z z':Nat} {c:α->List DV} {c':β->List DV} {ok:α->Prop} {okF:β->Prop} (ho:f.offset=off) (hc:P.cellsOf f.type=z) (h:OpD P f.type c ok) (hs:FOpD P fs (off+z) c' z' okF) :
   FOpD P (f :: fs) off (λp:α×β=>c p.1++c' p.2) (z+z') λp=>ok p.1/\okF p.2
theorem fields_openD{α:Type}{fs:List Field}{off z:Nat}{c:α->List DV}{p:α->Prop}(x:FOpD P fs off c z p) :
  ∀ (H:Type) (enc:TypeId×Value->H) (w:World) (j:Nat) (e:Nat->Bool) (k:Bool) (n:Nat) (cs:List Value),cs.length=off+z ->
   (∀ (i:Nat) (f:Field),fs[i]?=some f->∃ y,DataW.trod enc P w j e k n f.type ((cs.drop f.offset).take (P.cellsOf f.type))=some y)->∃ a,CRd w (cs.drop off) (c a)/\p a:=by
 induction x with
 | nil =>intro H enc w j e k n cs t _;rw[VF Oo];exact ⟨(),⟨rfl,λi v d h=>by simp at h⟩,trivial⟩
 | @cons α β f fs off z z' c c' p okF ho hc h hs ih =>intro H enc w j e k n cs t o;obtain ⟨y,r⟩:=o 0 f rfl;obtain ⟨a,q,l⟩:=h H enc w j e k n _ _ r;obtain ⟨b,s,m⟩:=ih H enc w j e k n cs Oo λi g u=>o (i+1) g (by simpa using u);rw[ho,hc]at q;refine ⟨(a,b),?_,l,m⟩;have:=q.append s;rw[<- Y8,Vu]at this;exact this
theorem OpD.struct{α:Type}{c:α->List DV}{r:α->Prop}{t z:Nat}{fs:Array Field}(B:P.underlying t=some (.struct fs))(A:P.cellsOf t=z)(y:FOpD P fs.toList 0 c z r):OpD P t c r:=by
 intro H p w e b g q u x h;obtain ⟨xs,n,_,_,k,l,m⟩:=DataW.trod_struct B h;obtain ⟨a,s,o⟩:=fields_openD y H p w e b g n u (by rw[k,A];omega) λi f v=>by
  have d:fs[i]?=some f:=by simpa using v
  have:=m i f d;have j:i<xs.length:=by rw[l];exact (Vz.1 d).1
  exact ⟨xs[i],by rw[this,Wa j]⟩
 exact ⟨a,by simpa using s,o⟩
theorem OpD.map{α β:Type}{c:α->List DV}{m:β->List DV}{l:α->Prop}{i:β->Prop}{t:TypeId}(h:OpD P t c l)(g:α->β)(r:∀ a,m (g a)=c a)(k:∀ a,l a->i (g a)):OpD P t m i:=by intro H j w d b e f p x q;obtain ⟨a,n,o⟩:=h H j w d b e f p x q;exact ⟨g a,by rw[r];exact n,k a o⟩
theorem OpD.arg{α:Type}{t:TypeId}{c:α->List DV}{i:α->Prop}(h:OpD P t c i){H:Type}{enc:TypeId×Value->H}{w:World}{f:Nat}{b:Nat->Bool}{e:Bool}{v:Value}{d:DataW H}{ps:List MemPlace}
  (k:DataW.Trod enc P w f b e t v d ps):∃ a,CRd w v.cells.toList (c a)/\i a:=by obtain ⟨g,j⟩:=k;exact h H enc w f b e g _ _ j
end
theorem CRd.agg{w:World}{cs:Array Value}{ds:List DV}(h:CRd w (Value.agg cs).cells.toList ds):Rep (mem0 w) (.agg cs) (.agg ds):=by have:=Rep.agg (m:=mem0 w) (vs:=cs.toList) (xs:=ds) h.1 λi v d a b=>.pure (h.2 i v d a b);simpa using this
theorem CRd.slc{w:World}{a:Option Addr}{l c:Nat}{d:DV}(h:CRd w (Value.slice a l c).cells.toList [d]):Rep (mem0 w) (.slice a l c) d:=.pure (CRd.get (by simpa [Value.cells] using h))
open Go.RowKit Go.ChangeShapes Go.WideShapes Go.Deep
theorem i64_of{a:Int}(h:(Lit.int .i64 a).wf=true):I64 a:=by simp[Lit.wf,IntKind.min,IntKind.max,IntKind.bits,IntKind.signed]at h;unfold I64;omega
theorem op_int:OpD Tryz.prog 3 iC I64:=OpD.i64 Tryz.underlying3
theorem op_ints:OpD Tryz.prog 22 (lC iC) λxs=>(∀ x∈xs,I64 x)/\xs.length<=9223372036854775807:=OpD.slice (sz:=1) Tryz.underlying22 Ok Od (λ_=>rfl) op_int
theorem barrierMissing_dc(l:List Int)(k:Int)(a:(∀ x∈l,I64 x)/\l.length<=9223372036854775807)(b:I64 k):DCall Tryz.prog 3 [.sl (l.map iC),DI k] [] (DB true) []:=Qbu ⟨Qdw a.1 a.2 b⟩
end Go.Proofs.YtkfnkecgcdhncaaGreat
