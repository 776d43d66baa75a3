/- Parts of the proof. No condition. -/
import Derived.Test.YthpnlnjdmlbnaaaGreatDoorQB0
import Derived.Test.YthpnlnjdmlbnaaaGreatDoorQB11
namespace Go.Proofs.YthpnlnjdmlbnaaaGreatDoor
open Go.RowKit
set_option linter.unusedSimpArgs false
set_option linter.unusedVariables false
theorem Qa7.add{s:Sp}{L:List Itm}(h:Qa7 s L){q b:Int}(hq:0<=q/\q<=4294967295)(hb:0<=b/\b < 4)(hn:∀ x∈L,x.i.seq≠q):Qa7 s (L++[⟨⟨q,b,-1,-1,0⟩,[],[]⟩]):=by
 obtain ⟨g1,g2,g3,g4,g5⟩:=h.ok.shp.z
 refine ⟨h.ok,h.w,λx hx=>?_,?_,λk hk ho=>?_⟩
 ·rcases Wk.1 hx with hx | hx
  ·exact h.each x hx
  ·rw [Wl] at hx
   subst hx
   refine ⟨⟨⟨hq,hb,trivial,Yv,λk hk=>⟨λe=>?_,λe=>by cases e⟩,(λk hk e=>by cases e),rfl,rfl⟩,⟨by show (0:Int)<=0;omega,by show (0:Int)<=_;omega⟩,?_⟩,rfl⟩
   ·have e:s.fs[k].ow=q:=e
    obtain ⟨y,hy,hyk⟩:=h.all k hk (by rw [e];omega)
    have:=((h.each y hy).inc.ow k hk).2 hyk
    exact absurd (this.symm.trans e) (hn y hy)
   ·show ((0:Nat):Int)=clN s ((0:Nat):Int)
    rw [Qcb h.ok.shp.sh Oo,Vs,U3 Oo]
 ·refine WV.2 ⟨h.seqs,Os,λa ha b hb=>?_⟩
  rw [Wl] at hb
  subst hb
  exact hn a ha
 ·obtain ⟨y,hy,hyk⟩:=h.all k hk ho
  exact ⟨y,by simp [hy],hyk⟩
theorem Qa7.drop{s:Sp}{L:List Itm}{x:Itm}(h:Qa7 s (L++[x]))(h0:x.i.words=0):Qa7 s L:=by
 have hfr:=(h.each x Os).inc.nil h.ok.shp h0
 refine ⟨h.ok,h.w,λy hy=>h.each y (by simp [hy]),(WV.1 h.seqs).1,λk hk ho=>?_⟩
 obtain ⟨y,hy,hyk⟩:=h.all k hk ho
 rcases Wk.1 hy with h1 | h1
 ·exact ⟨y,h1,hyk⟩
 ·rw [Wl] at h1
  subst h1
  rw [hfr] at hyk
  cases hyk
abbrev newI(q b:Int):Itm:=⟨⟨q,b,-1,-1,0⟩,[],[]⟩
structure QcC(h:Hp)(BL:List (List Itm))(l:List Inc)(C K:List Itm)(T0:Itm):Prop where
 ci:C.map Itm.i=l
 ti:T0.i=tgtI h l
 cin:∀ x∈C,x∈BL.flatten
 kin:∀ x,x∈K<->x∈BL.flatten/\x∉C/\x≠T0
 tin:(T0∈BL.flatten/\T0∉C)\/∃ b,T0=newI h.seq b
 tb:0<=T0.i.belt/\T0.i.belt < h.config.rules.length
 tw:0 < T0.i.words<->T0∈BL.flatten
section
variable{h:Hp}{BL:List (List Itm)}{l:List Inc}
theorem QD.uniq(H:QD h BL){x y:Itm}(hx:x∈BL.flatten)(hy:y∈BL.flatten)(e:x.i.seq=y.i.seq):x=y:=by
 rcases pair_cases H.sp.seqs x hx y hy with k | k | k
 ·exact k
 ·exact absurd e k
 ·exact absurd e.symm k
theorem QD.belt_in(H:QD h BL){x:Itm}(hx:x∈BL.flatten):∃ b:Nat,∃ hb:b < BL.length,x∈BL[b]/\x.i.belt=(b:Int):=by
 obtain ⟨q,hq,hxq⟩:=Vc.1 hx
 obtain ⟨b,hb,rfl⟩:=WQ.1 hq
 exact ⟨b,hb,hxq,H.blt b hb x hxq⟩
theorem QD.yng(H:QD h BL){t:Int}{y:Inc}(hy:yngR h.belts t=some y):∃ x∈BL.flatten,x.i=y/\y.belt=t:=by
 unfold yngR at hy
 split at hy
 ·cases hy
 ·rename_i h0
  cases hb:h.belts[t.toNat]? with
  | none=>rw [hb] at hy;cases hy
  | some q =>
   rw [hb,WZ] at hy
   have hm:=VT hy
   rw [H.bl,Wg] at hb
   cases hb2:BL[t.toNat]? with
   | none=>rw [hb2] at hb;cases hb
   | some p =>
    rw [hb2,Wu] at hb
    injection hb with hb
    subst hb
    obtain ⟨x,hx,rfl⟩:=Wj.1 hm
    obtain ⟨hl,rfl⟩:=Wi.1 hb2
    refine ⟨x,Vc.2 ⟨_,Wd hl,hx⟩,rfl,?_⟩
    rw [H.blt _ hl x hx]
    omega
theorem TgtP.mem(H:QD h BL)(hT:TgtP h.belts l){i:Inc}(hi:i∈l):∃ x∈BL.flatten,x.i=i:=by
 obtain ⟨_,h1,_⟩:=hT
 have:=VZ (h1 i hi).1
 rw [H.flat] at this
 obtain ⟨x,hx,e⟩:=Wj.1 this
 exact ⟨x,hx,e⟩
theorem TgtP.nodup(hT:TgtP h.belts l):(l.map Inc.seq).Nodup:=by
 obtain ⟨_,_,h2⟩:=hT
 exact h2.2.1
theorem tgt_belt(H:QD h BL)(hT:TgtP h.belts l):∃ t,(((h.config.rules[((l.head?).getD inc0).belt.toNat]?).map Rul.target).getD 0)=t/\0<=t/\t < h.config.rules.length:=by
 obtain ⟨x,hx,e⟩:=hT.mem H (i:=l[0]'hT.1) (Wd _)
 obtain ⟨b,hb,_,hbelt⟩:=H.belt_in hx
 have hbl:b < h.config.rules.length:=by rw [<- H.bn];exact hb
 obtain ⟨_,_,_,q4,q5⟩:=H.cfg.rule b hbl
 refine ⟨h.config.rules[b].target,?_,?_⟩
 ·rw [U0,Wa hT.1,Wy,<- e,hbelt,Wc,Wa hbl]
  rfl
 ·rcases Wq (b+1) h.config.rules.length with c | c
  ·have:=q5 c;omega
  ·have:=(q4 Oo).2;omega
theorem step_parts(H:QD h BL)(hT:TgtP h.belts l):∃ C K T0,QcC h BL l C K T0:=by
 obtain ⟨t,et,t0,t1⟩:=tgt_belt H hT
 have hC:∀ l:List Inc,(∀ i∈l,∃ x∈BL.flatten,x.i=i)->∃ C:List Itm,C.map Itm.i=l/\∀ x∈C,x∈BL.flatten:=by
  intro l
  induction l with
  | nil=>intro _;exact ⟨[],rfl,λx hx=>absurd hx (Vr)⟩
  | cons i l ih =>
   intro hl
   obtain ⟨x,hx,e⟩:=hl i (Wz ..)
   obtain ⟨C,c1,c2⟩:=ih λj hj=>hl j (Wm _ hj)
   refine ⟨x :: C,by rw [W3,e,c1],λy hy=>?_⟩
   rcases Wv.1 hy with rfl | hy
   ·exact hx
   ·exact c2 y hy
 obtain ⟨C,c1,c2⟩:=hC l λi hi=>hT.mem H hi
 have fin:∀ T0:Itm,T0.i=tgtI h l->((T0∈BL.flatten/\T0∉C)\/∃ b,T0=newI h.seq b)->(0<=T0.i.belt/\T0.i.belt < h.config.rules.length)->∃ C K T0,QcC h BL l C K T0:=λT0 h1 h2 h3=>by
  refine ⟨C,BL.flatten.filter λx=>bP (x∉C/\x≠T0),T0,c1,h1,c2,λx=>?_,h2,h3,?_⟩
  ·rw [WI,ZI]
  ·constructor
   ·intro hw
    rcases h2 with h2 | ⟨b,rfl⟩
    ·exact h2.1
    ·exact absurd hw (Int.lt_irrefl 0)
   ·intro hm
    have:=H.pos T0 hm
    omega
 have hnew:tgtI h l=⟨h.seq,t,-1,-1,0⟩->∃ C K T0,QcC h BL l C K T0:=λe=>fin (newI h.seq t) e.symm (.inr ⟨t,rfl⟩) ⟨t0,t1⟩
 cases hy:yngR h.belts t with
 | none =>
  refine hnew ?_
  unfold tgtI
  rw [et]
  dsimp only
  rw [hy]
 | some y =>
  by_cases hc:(l.any λx=>decide (x.seq=y.seq))=false/\(capV h.config t h.space.fs.length=0\/y.words < w64 (capV h.config t h.space.fs.length * (szS h.space:Int)))
  ·obtain ⟨x,hx,e,eb⟩:=H.yng hy
   refine fin x ?_ (.inl ⟨hx,λhxc=>?_⟩) ?_
   ·unfold tgtI
    rw [et]
    dsimp only
    rw [hy]
    dsimp only
    rw [if_pos hc]
    exact e
   ·have h1:=hc.1
    rw [List.any_eq_false] at h1
    refine h1 x.i (by rw [<- c1];exact WT hxc) ?_
    rw [e];simp
   ·rw [e,eb];exact ⟨t0,t1⟩
  ·refine hnew ?_
   unfold tgtI
   rw [et]
   dsimp only
   rw [hy]
   dsimp only
   rw [if_neg hc]
theorem obj_frame{s:Sp}(hs:XA s){x:Itm}(hx:JN s x){p r d:Nat}(hp:(p,r,d)∈obs 0 x.os){k:Nat}(hk:k<=r+d):Jf s ((adr (szS s) x.fr (p+k):Nat):Int)∈x.fr:=by
 have hz:=(XC hs.shp.sh).2.2.1
 have:=Itm.posOk hs hx hp
 unfold Jf
 rw [Wc]
 exact adr_fr Oo Oo
theorem ref_ok(H:QD h BL){C K:List Itm}{T0:Itm}(S:QcC h BL l C K T0){w:Int}(hr:RefW (szS h.space) BL.flatten w):RefOk h.space C w:=by
 intro hwin
 rcases hr with hr | ⟨hr1,r',d',y,hy,p',hp',ea⟩
 ·exact absurd hr hwin.1.1
 ·obtain ⟨c,hc,hcf⟩:=(Qen λx hx=>(H.sp.each x (S.cin x hx)).inc.toIncC).1 hwin.2
  have hf:=obj_frame H.sp.ok (H.sp.each y hy) hp' (k:=0) Oo
  rw [VI,<- ea,show (((w - 1).toNat:Nat):Int)=w - 1 by omega] at hf
  have e:y=c:=by
   refine Classical.byContradiction λhne=>?_
   exact (H.sp.each y hy).inc.toIncC.disj (H.sp.each c (S.cin c hc)).inc.toIncC (λe=>hne (H.uniq hy (S.cin c hc) e)) _ hf hcf
  exact ⟨r',d',y,e▸hc,p',hp',ea⟩
theorem step_ctx(H:QD h BL)(hT:TgtP h.belts l){C K:List Itm}{T0:Itm}(S:QcC h BL l C K T0)(hq:h.seq<=4294967295)(hneed:sumF h.space C<=(Qj h.space.fs).length)(hl:l.length<=1000000):EvC h.space C K T0:=by
 have hnd:=hT.nodup
 have hT0:JN h.space T0:=by
  rcases S.tin with k | ⟨b,e⟩
  ·exact H.sp.each T0 k.1
  ·have hb:=S.tb
   have hr:=H.cfg.len
   rw [e] at hb ⊢
   have:=H.sp.add (q:=h.seq) (b:=b) ⟨H.sq0,hq⟩ ⟨hb.1,by dsimp only at hb;omega⟩ λx hx=>by have:=H.sq x hx;omega
   exact this.each _ (Wh _ (Wl.2 rfl))
 have hsT:∀ x∈BL.flatten,x≠T0->x.i.seq≠T0.i.seq:=λx hx hne e=>by
  rcases S.tin with k | ⟨b,e2⟩
  ·exact hne (H.uniq hx k.1 e)
  ·have:=H.sq x hx
   rw [e2] at e
   dsimp only at e
   omega
 have hCT:∀ x∈C,x≠T0:=λx hx e=>by
  rcases S.tin with k | ⟨b,e2⟩
  ·exact k.2 (e▸hx)
  ·have:=H.sq x (S.cin x hx)
   rw [e,e2] at this
   dsimp only at this
   omega
 have hin:∀ x∈C++K,x∈BL.flatten/\x≠T0:=λx hx=>by
  rcases Wk.1 hx with k | k
  ·exact ⟨S.cin x k,hCT x k⟩
  ·exact ⟨((S.kin x).1 k).1,((S.kin x).1 k).2.2⟩
 refine ⟨H.sp.ok,H.sp.w,λx hx=>H.sp.each x (S.cin x hx),λx hx=>H.sp.each x ((S.kin x).1 hx).1,hT0,λx hx=>hsT x (hin x hx).1 (hin x hx).2,λx hx y hy e=>?_,λx hx y hy e=>H.uniq (hin x hx).1 (hin y hy).1 e,λk hk h0=>?_,hneed,λx hx p r d hp k h1 h2 w hw=>?_,by rw [<- Wb (f:=Itm.i),S.ci];exact hl⟩
 ·have h2:=(S.kin y).1 hy
  exact h2.2.1 (H.uniq (S.cin x hx) h2.1 e▸hx)
 ·obtain ⟨x,hx,hkx⟩:=H.sp.all k hk h0
  by_cases c1:x=T0
  ·exact .inl (c1▸hkx)
  ·by_cases c2:x∈C
   ·exact .inr ⟨x,We _ c2,hkx⟩
   ·exact .inr ⟨x,Wh _ ((S.kin x).2 ⟨hx,c2,c1⟩),hkx⟩
 ·
  have hslot:JE (szS h.space) BL.flatten (adr (szS h.space) x.fr (p+k)):=⟨x,S.cin x hx,p,r,d,hp,k,h1,h2,rfl⟩
  have hr:=H.refs _ hslot
  rw [Xy hw] at hr
  exact ref_ok H S hr
end
def wrtL:List Int->List Int->List Int->List Int
 | l,q :: qs,v :: vs=>wrtL (l.set q.toNat v) qs vs
 | l,_,_=>l
theorem QdZ:∀ (qs vs l:List Int) (q v:Int),qs.length=vs.length->wrtL l (qs++[q]) (vs++[v])=(wrtL l qs vs).set q.toNat v
 | [],[],l,q,v,_=>rfl
 | a :: qs,b :: vs,l,q,v,h=>QdZ qs vs _ q v (by simpa using h)
@[simp] theorem QaE:∀ (qs vs l:List Int),(wrtL l qs vs).length=l.length
 | [],vs,l=>by cases vs <;> rfl
 | a :: qs,[],l=>rfl
 | a :: qs,b :: vs,l=>by show (wrtL _ qs vs).length=_;rw [QaE qs vs,Ww]
theorem QcN:∀ (qs vs l:List Int) (x:Nat),(∀ q∈qs,q.toNat≠x)->(wrtL l qs vs)[x]?=l[x]?
 | [],vs,l,x,_=>by cases vs <;> rfl
 | a :: qs,[],l,x,_=>rfl
 | a :: qs,b :: vs,l,x,h=>by
  show (wrtL _ qs vs)[x]?=_
  rw [QcN qs vs _ x λq hq=>h q (Wm _ hq),WA (h a (Wz ..))]
theorem wrtL_at:∀ (qs vs l:List Int),qs.Pairwise (λa b=>a.toNat≠b.toNat)->qs.length=vs.length->(∀ q∈qs,q.toNat < l.length)->∀ (j:Nat) (q v:Int),qs[j]?=some q->vs[j]?=some v->(wrtL l qs vs)[q.toNat]?=some v
 | [],vs,l,_,_,_,j,q,v,h,_=>by simp at h
 | a :: qs,[],l,_,h,_,_,_,_,_,_=>by simp at h
 | a :: qs,b :: vs,l,hp,hl,hb,0,q,v,h1,h2=>by
  injection h1 with h1;injection h2 with h2
  subst h1;subst h2
  have h3:=Vf.1 hp
  show (wrtL _ qs vs)[a.toNat]?=_
  rw [QcN qs vs _ _ λq hq e=>h3.1 q hq e.symm,WB (hb a (Wz ..))]
 | a :: qs,b :: vs,l,hp,hl,hb,j+1,q,v,h1,h2=>by
  have h3:=Vf.1 hp
  exact wrtL_at qs vs _ h3.2 (by simpa using hl) (λq hq=>by rw [Ww];exact hb q (Wm _ hq)) j q v h1 h2
theorem wrtL_all{p:Int->Prop}:∀ (qs vs l:List Int),(∀ x∈l,p x)->(∀ x∈vs,p x)->∀ x∈wrtL l qs vs,p x
 | [],vs,l,h,_=>by cases vs <;> exact h
 | a :: qs,[],l,h,_=>h
 | a :: qs,b :: vs,l,h,k=>wrtL_all qs vs _ (λx hx=>by
   rcases WR hx with hx | rfl
   ·exact h x hx
   ·exact k x (Wz ..)) λx hx=>k x (Wm _ hx)
noncomputable def stpW(h:Hp)(l:List Inc):List Int:=(Jj h.space h.roots l).map (Qr h.roots)++(Qbb h.space h.sets l).map (wAt h.space)
noncomputable def Xf(h:Hp)(l:List Inc):EvS×List Int:=runE l h.space (tgtI h l) (stpW h l)
noncomputable def stpR(h:Hp)(l:List Inc):List Int:=wrtL h.roots.refs ((Jj h.space h.roots l).map λ(i:Nat)=>(i:Int)) ((Xf h l).2.take (Jj h.space h.roots l).length)
noncomputable def ZZ(h:Hp)(l:List Inc):Sp:=⟨h.space.sh,wrtL (Xf h l).1.s.ws (Qbb h.space h.sets l) ((Xf h l).2.drop (Jj h.space h.roots l).length),(Xf h l).1.s.fs⟩
noncomputable def Qaj(s:Sp)(l:List Inc):Sp:=l.foldl (λs x=>⟨s.sh,Qa6 (szS s) s.fs x.seq s.ws,JT s.fs x.seq⟩) s
theorem clrA_sh:∀ (l:List Inc) (s:Sp),(Qaj s l).sh=s.sh
 | [],s=>rfl
 | x :: l,s=>by
  show (Qaj ⟨s.sh,Qa6 (szS s) s.fs x.seq s.ws,JT s.fs x.seq⟩ l).sh=s.sh
  rw [clrA_sh l]
def remA(B:List (List Inc))(l:List Inc):List (List Inc):=l.foldl (λB x=>remB B x.seq) B
noncomputable def stpB(h:Hp)(l:List Inc):List (List Inc)×Int :=
 if 0 < (tgtI h l).words then (repB (remA h.belts l) (Xf h l).1.to,h.seq)
 else if 0 < (Xf h l).1.to.words then (addB (remA h.belts l) (Xf h l).1.to,w64 (h.seq+1)) else (remA h.belts l,h.seq)
noncomputable def stpN(h:Hp)(l:List Inc):Int:=intoN h.sets ((cfr h.space.fs l).map λ(k:Nat)=>(k:Int))
noncomputable def stpP(h:Hp)(l:List Inc):Rpt :=
 let u:=w64 ((Xf h l).1.to.words - (tgtI h l).words)
 ⟨sumW l,u,stpN h l,w64 (w64 (((Q7 h.roots).length:Int)+stpN h l)+w64 (2 * u))⟩
noncomputable def Zn(h:Hp)(l:List Inc):Hp :=
 ⟨h.config,⟨h.space.sh,(Qaj (ZZ h l) l).ws,(Qaj (ZZ h l) l).fs⟩,(stpB h l).1,(stpB h l).2,renK (ZZ h l) h.sets l (Qbb h.space h.sets l) (Xf h l).1.mv,⟨h.roots.used,stpR h l⟩,h.since,
  ⟨h.stats.allocated,h.stats.objects,h.stats.collections,w64 (h.stats.steps+1),h.stats.rounds,w64 (h.stats.condemned+(stpP h l).condemned),w64 (h.stats.copied+(stpP h l).survived),w64 (h.stats.entries+(stpP h l).entries),w64 (h.stats.work+(stpP h l).work)⟩,h.dead⟩
theorem Qd2(h:Hp)(l:List Inc):(Zn h l).space=Qaj (ZZ h l) l:=by
 show (⟨h.space.sh,(Qaj (ZZ h l) l).ws,(Qaj (ZZ h l) l).fs⟩:Sp)=_
 have:=clrA_sh l (ZZ h l)
 rw [<- show (Qaj (ZZ h l) l).sh=h.space.sh from this]
theorem copy20_c{r:Rts}(h1:r.used.length<=1000000)(h2:r.refs.length<=1000000):Zz r=some r:=by
 refine Gd.eq ?_
 unfold Zz
 exact .pos (len_in h1 Oo) (.pos (len_in h2 Oo) (.some rfl))
section
variable{h:Hp}{BL:List (List Itm)}
theorem QD.small(H:QD h BL):h.space.ws.length<=16384/\h.space.fs.length<=64/\h.roots.used.length=32/\h.roots.refs.length=32/\h.sets.length<=4096:=⟨XT H.sp.ok,H.sp.ok.shp.hi,H.rts.u,H.rts.v,H.sok.len⟩
theorem QaP(H:QD h BL):Qw h=some h:=by
 obtain ⟨a,b,c,d,e⟩:=H.small
 have hl:=H.cfg.len
 have hs:=H.sok.sz H.sin
 refine Gd.eq ?_
 unfold Qw
 refine .pos (len_in Oo Oo) ?_
 refine .call (copy_c Oo Oo) (.call (QdV H.bsz) (.call (rcopy_c _ Oo λx hx=>by have:=hs.2 x hx;omega) (.call (copy20_c Oo Oo) (.some rfl))))
end
theorem map_ite'{α β:Type}{c:Prop}[Decidable c]{x y:Option α}(f:α->β):(if c then x else y).map f=if c then x.map f else y.map f:=by split <;> rfl
def LS.mp{σ τ β γ:Type}(I:τ->σ)(J:γ->β):LS τ γ->LS σ β
 | .go t=>.go (I t)
 | .out c=>.out (J c)
theorem Qei{σ τ β γ:Type}{f:σ->Option (LS σ β)}{g:τ->Option (LS τ γ)}(I:τ->σ)(J:γ->β)(h:∀ t,f (I t)=(g t).map (LS.mp I J)):∀ n t,Qap f n (I t)=(Qap g n t).map J
 | 0,t=>rfl
 | n+1,t=>by
  unfold Qap
  rw [h t]
  cases hg:g t with
  | none=>rfl
  | some y =>
   cases y with
   | go t'=>exact Qei I J h n t'
   | out c=>rfl
theorem loop_sim{σ τ β γ:Type}{f:σ->Option (LS σ β)}{g:τ->Option (LS τ γ)}(I:τ->σ)(J:γ->β)(h:∀ t,f (I t)=(g t).map (LS.mp I J))(t:τ):Qi f (I t)=(Qi g t).map J:=by
 cases hg:Qi g t with
 | some c =>
  obtain ⟨n,hn⟩:=Jr.1 hg
  exact Jr.2 ⟨n,by rw [Qei I J h,hn];rfl⟩
 | none =>
  cases hf:Qi f (I t) with
  | none=>rfl
  | some b =>
   obtain ⟨n,hn⟩:=Jr.1 hf
   rw [Qei I J h] at hn
   cases hgn:Qap g n t with
   | none=>rw [hgn] at hn;cases hn
   | some c =>
    have:=Jr.2 ⟨n,hgn⟩
    rw [hg] at this
    cases this
theorem bind_sim{σ τ β γ δ:Type}{f:σ->Option (LS σ β)}{g:τ->Option (LS τ γ)}{K2:β->Option δ}{K1:γ->Option δ}(I:τ->σ)(J:γ->β){t:τ}{s:σ}(hs:I t=s)(h:∀ t,f (I t)=(g t).map (LS.mp I J))(hk:∀ c,K2 (J c)=K1 c):(Qi f s).bind K2=(Qi g t).bind K1:=by
 subst hs
 rw [loop_sim I J h,UL]
 congr 1
 funext c
 exact hk c
theorem note2_eq(s:Sp)(l:List Qe)(x w:Int):ZS s l x w=(Q3 s l x w).map λr=>(r,s.ws,s.fs):=by
 unfold ZS Q3
 simp only [map_ite',Uk,Function.comp_def,Wu]
theorem renew2_eq(s:Sp)(l:List Qe)(c:List Inc)(ps:List Int)(mv:List Mov):Zb s l c ps mv=(JO s l c ps mv).map λr=>(r,s.ws,s.fs):=by
 obtain ⟨sh,ws,fs⟩:=s
 unfold Zb JO
 simp only [Uk,Function.comp_def,note2_eq]
 congr 1
 funext v1
 congr 1
 funext v2
 refine bind_sim (λt:List Qe×Int=>(ws,fs,t.1,t.2)) (λr=>(ws,fs,r)) rfl (λt=>?_) (λc=>?_)
 ·simp only [map_ite',Uk,UL,Function.comp_def,if_true,Wu,LS.mp]
 ·refine bind_sim (λt:List Qe×Int=>(ws,fs,t.1,t.2)) (λr=>(ws,fs,r)) rfl (λt=>?_) (λc=>?_)
  ·simp only [map_ite',Uk,Function.comp_def,Wu,LS.mp,Option.bind_assoc]
   by_cases h:t.2 < (mv.length:Int)
   ·rw [if_pos h,if_pos h]
    congr 1
    funext v3
    congr 1
    funext v4
    refine bind_sim (λt:List Qe×Int=>(ws,fs,t.1,t.2)) (λr=>(ws,fs,r)) rfl (λt=>?_) (λc=>rfl)
    simp only [map_ite',Uk,UL,Function.comp_def,if_true,Wu,LS.mp]
   ·rw [if_neg h,if_neg h]
  ·rfl
theorem flat_remB(B:List (List Inc))(q:Int):(remB B q).flatten=B.flatten.filter λx=>!decide (x.seq=q):=by
 unfold remB
 rw [Yd]
theorem BSz.rem{B:List (List Inc)}(h:BSz B)(q:Int):BSz (remB B q):=by
 unfold remB
 refine ⟨by rw [Wb];exact h.1,λp hp=>?_⟩
 obtain ⟨b,hb,rfl⟩:=Wj.1 hp
 have:=h.2 b hb
 have:=WN (λx:Inc=>!decide (x.seq=q)) b
 omega
theorem QaH:∀ (l:List Inc) (B:List (List Inc)),remA B l=B.map λp=>p.filter λx=>!decide (x.seq∈l.map Inc.seq)
 | [],B=>by
  show B=_
  have:(λp:List Inc=>p.filter λx=>!decide (x.seq∈([]:List Inc).map Inc.seq))=id:=by funext p;simp
  rw [this,YP]
 | i :: l,B=>by
  show remA (remB B i.seq) l=_
  rw [QaH l]
  unfold remB
  rw [WS]
  refine WU λp _=>?_
  show (p.filter λx=>!decide (x.seq=i.seq)).filter _=_
  rw [Ym]
  refine UA λx _=>?_
  rw [W3]
  by_cases e:x.seq=i.seq <;> simp [e]
theorem shp_clr{s:Sp}(hs:Qbs s)(q:Int):Qbs ⟨s.sh,Qa6 (szS s) s.fs q s.ws,JT s.fs q⟩:=by
 refine ⟨hs.sh,by show 2<=(JT s.fs q).length;unfold JT;rw [Wb];exact hs.lo,by show (JT s.fs q).length<=64;unfold JT;rw [Wb];exact hs.hi,?_⟩
 show (Qa6 (szS s) s.fs q s.ws).length=(JT s.fs q).length * szS s
 unfold JT Qa6
 rw [Wb,V2]
 exact hs.wl
theorem clear_loop{Q:List Int×List Fe×List (List Inc)->Prop}{l:List Inc}{s:Sp}{B:List (List Inc)}(hs:Qbs s)(hB:BSz B)(hd:B.flatten.Pairwise λx y=>x.seq≠y.seq)(hm:∀ i∈l,∃ x∈B.flatten,x.seq=i.seq)(hn:(l.map Inc.seq).Nodup)(hl:l.length<=1000000)
    (hQ:Q ((Qaj s l).ws,(Qaj s l).fs,remA B l)) :
    Gd Q (Qi (λ(s72:List Int×List Fe×List (List Inc)×Int) =>
       if s72.2.2.2 < (l.length:Int) then
       ((at_ l s72.2.2.2).bind λv77 =>
       (Zq s72.2.2.1 v77.seq).bind λv78 =>
       (QY (Sp.mk s.sh s72.1 s72.2.1) v77.seq).bind λv79 =>
       if v79.2.1.length=s72.1.length then
       if v79.2.2.length=s72.2.1.length then
       some (LS.go ((v79.2.1,v79.2.2,v78.1,w64 (s72.2.2.2+1))))
       else none
       else none)
       else
       some (LS.out ((s72.1,s72.2.1,s72.2.2.1)))) (s.ws,s.fs,B,0)):=by
  refine Gd.for l.length (λ(t:Sp×List (List Inc)) i=>(t.1.ws,t.1.fs,t.2,i)) (λi t=>t.1=Qaj s (l.take i)/\t.2=remA B (l.take i)/\t.1.sh=s.sh/\Qbs t.1/\BSz t.2/\t.2.flatten.Pairwise (λx y=>x.seq≠y.seq)/\∀ j∈l.drop i,∃ x∈t.2.flatten,x.seq=j.seq) (s,B) rfl (λ_ _=>rfl) Oo
    ⟨rfl,rfl,rfl,hs,hB,hd,hm⟩ (λi hi t ht=>?_) (λt ht=>?_)
  · obtain ⟨t1,t2,t3,t4,t5,t6,t7⟩:=ht
    refine .atN hi (.call (remove11_c t5 _ t6 (t7 _ (by rw [WO hi];exact Wz ..))) ?_)
    obtain ⟨n,hn2⟩:=clear_c t4 l[i].seq
    have es:(⟨s.sh,t.1.ws,t.1.fs⟩:Sp)=t.1:=by rw [<- t3]
    refine .call (a:=(n,Qa6 (szS t.1) t.1.fs l[i].seq t.1.ws,JT t.1.fs l[i].seq)) (by
      show QY ⟨s.sh,t.1.ws,t.1.fs⟩ _=_
      rw [es];exact hn2) ?_
    have f1:=shp_clr t4 l[i].seq
    refine .pos (by show (Qa6 (szS t.1) t.1.fs l[i].seq t.1.ws).length=t.1.ws.length;unfold Qa6;rw [V2]) (.pos (by show (JT t.1.fs l[i].seq).length=t.1.fs.length;unfold JT;rw [Wb]) (.some (.inl ⟨(⟨t.1.sh,Qa6 (szS t.1) t.1.fs l[i].seq t.1.ws,JT t.1.fs l[i].seq⟩,remB t.2 l[i].seq),rfl,?_,?_,t3,f1,t5.rem _,?_,λj hj=>?_⟩)))
    · unfold Qaj
      rw [QcY hi,show (l.take i).foldl _ s=Qaj s (l.take i) from rfl,<- t1]
    · unfold remA
      rw [QcY hi,show (l.take i).foldl _ B=remA B (l.take i) from rfl,<- t2]
    · dsimp only
      rw [flat_remB]
      exact t6.filter _
    · have hj':j∈l.drop i:=by rw [WO hi];exact Wm _ hj
      obtain ⟨x,hx,e⟩:=t7 j hj'
      refine ⟨x,?_,e⟩
      dsimp only
      rw [flat_remB,WI]
      refine ⟨hx,?_⟩
      simp only [Vn,decide_eq_false_iff_not]
      intro c
      have hj2:j.seq∈(l.drop (i+1)).map Inc.seq:=WT hj
      have e2:l.map Inc.seq=(l.take i).map Inc.seq++(l[i].seq :: (l.drop (i+1)).map Inc.seq):=by rw [<- W3,<- WO hi,<- WF,Vi]
      rw [e2] at hn
      have:=(Uv.1 (V7.1 hn).2.1).1
      apply this
      rw [<- c,e]
      exact hj2
  · obtain ⟨t1,t2,_⟩:=ht
    rw [WH] at t1 t2
    dsimp only
    rw [t1,t2]
    exact hQ
def stmp(i:Inc):Int:=i.belt * 4294967296+i.seq
section
variable{h:Hp}{BL:List (List Itm)}{l:List Inc}{C K:List Itm}{T0:Itm}
theorem QD.order(H:QD h BL):BL.flatten.Pairwise λx y=>stmp x.i < stmp y.i:=by
 have hsq:∀ x∈BL.flatten,0<=x.i.seq/\x.i.seq<=4294967295:=λx hx=>(H.sp.each x hx).inc.sq
 have key:∀ (B:List (List Itm)) (n:Nat),(∀ b (hb:b < B.length),∀ x∈B[b],x.i.belt=((n+b:Nat):Int))->(∀ q∈B,q.Pairwise λx y=>x.i.seq < y.i.seq)->(∀ x∈B.flatten,0<=x.i.seq/\x.i.seq<=4294967295)->B.flatten.Pairwise λx y=>stmp x.i < stmp y.i:=by
  intro B
  induction B with
  | nil=>intro _ _ _ _;exact .nil
  | cons q B ih =>
   intro n h1 h2 h3
   have hq:∀ x∈q,x.i.belt=((n:Nat):Int):=λx hx=>h1 0 Os x hx
   rw [Va,WV]
   refine ⟨?_,ih (n+1) (λb hb x hx=>?_) (λp hp=>h2 p (Wm _ hp)) (λx hx=>h3 x (by rw [Va];exact Wh _ hx)),λx hx y hy=>?_⟩
   ·refine (Wx.2 λi j hi hj hij=>?_)
    have:=Wx.1 (h2 q (Wz ..)) i j hi hj hij
    have e1:=hq _ (Wd hi)
    have e2:=hq _ (Wd hj)
    unfold stmp
    omega
   ·have:=h1 (b+1) (by simp;omega) x (by simpa using hx)
    rw [this];push_cast;omega
   ·obtain ⟨p,hp,hyp⟩:=Vc.1 hy
    obtain ⟨b,hb,rfl⟩:=WQ.1 hp
    have e1:=hq x hx
    have e2:=h1 (b+1) (by simp;omega) y (by simpa using hyp)
    have e3:=h3 x (by rw [Va];exact We _ hx)
    have e4:=h3 y (by rw [Va];exact Wh _ hy)
    unfold stmp
    rw [e1,e2]
    push_cast
    omega
 exact key BL 0 (λb hb x hx=>by rw [H.blt b hb x hx];simp) H.asc hsq
theorem step_first(H:QD h BL)(hT:TgtP h.belts l)(S:QcC h BL l C K T0){c x:Itm}(hc:c∈C)(hx:x∈BL.flatten)(hn:x∉C):stmp c.i < stmp x.i:=by
 obtain ⟨_,_,hlen,_,p1,p2⟩:=hT
 have hfl:=H.flat
 rw [hfl] at p1 p2 hlen
 rw [Wb] at p1 p2 hlen
 rw [Wb] at hlen
 have htk:(BL.flatten.map Itm.i).take l.length=(BL.flatten.take l.length).map Itm.i:=by rw [U8]
 rw [htk] at p1 p2
 have hcs:c.i.seq∈l.map Inc.seq:=by rw [<- S.ci,WS];exact WT (f:=Inc.seq∘Itm.i) hc
 obtain ⟨i,hi,ei⟩:=p1 _ hcs
 obtain ⟨c',hc',rfl⟩:=Wj.1 hi
 have ecc:c'=c:=H.uniq (Vy hc') (S.cin c hc) ei
 subst ecc
 have hxd:x∈BL.flatten.drop l.length:=by
  have hx':=hx
  rw [<- Vi l.length BL.flatten] at hx'
  rcases Wk.1 hx' with k | k
  ·exfalso
   have:=p2 x.i (WT k)
   rw [<- S.ci,WS] at this
   obtain ⟨y,hy,e⟩:=Wj.1 this
   exact hn (H.uniq (S.cin y hy) hx e▸hy)
  ·exact k
 have:=H.order
 rw [<- Vi l.length BL.flatten] at this
 exact (WV.1 this).2.2 _ hc' _ hxd
theorem ZC{s:Sp}(hs:XA s){x:Itm}(hx:JN s x){p r d k:Nat}(hp:(p,r,d)∈obs 0 x.os)(hk:k<=r+d){q:Int}(hq0:0<=q)(hq:q.toNat=adr (szS s) x.fr (p+k)):Jf s q∈x.fr/\q < s.ws.length:=by
 have h1:=obj_frame hs hx hp hk
 have h2:=Itm.posOk hs hx hp
 have h3:=Jt hs.shp hx.inc.ch.lt (p:=p+k) Oo
 rw [<- hq,show ((q.toNat:Nat):Int)=q by omega] at h1
 exact ⟨h1,Oo⟩
theorem Qb5(H:QD h BL)(S:QcC h BL l C K T0){k:Nat}:((k:Nat):Int)∈(cfr h.space.fs l).map (λ(k:Nat)=>(k:Int))<->∃ c∈C,k∈c.fr:=by
 rw [mem_nat,QcV,<- S.ci]
 exact Qen λx hx=>(H.sp.each x (S.cin x hx)).inc.toIncC
theorem JJ(H:QD h BL)(S:QcC h BL l C K T0){q:Int}(hq:q∈Qbb h.space h.sets l):0<=q/\QaY h.space l (wAt h.space q)/\∃ x∈BL.flatten,x∉C/\∃ p r d,(p,r,d)∈obs 0 x.os/\∃ k,1<=k/\k<=r/\q.toNat=adr (szS h.space) x.fr (p+k):=by
 unfold Qbb at hq
 rw [WI,ZI] at hq
 obtain ⟨hm,hlt,hw⟩:=hq
 obtain ⟨y,hy,h1,h2,h3⟩:=Qef.1 hm
 have h0:=(H.sin y hy q h3).1
 obtain ⟨⟨x,hx,p,r,d,hp,k,k1,k2,e⟩,hf,_⟩:=H.snd y.frm y.to q ⟨y,hy,rfl,rfl,h3⟩
 refine ⟨h0,hw,x,hx,λhc=>h2 ?_,p,r,d,hp,k,k1,k2,e⟩
 have:=(ZC H.sp.ok (H.sp.each x hx) hp Oo h0 e).1
 rw [hf]
 exact (Qb5 H S).2 ⟨x,hc,this⟩
theorem slot_in(H:QD h BL)(hT:TgtP h.belts l)(S:QcC h BL l C K T0){x:Itm}(hx:x∈BL.flatten)(hn:x∉C){p r d k:Nat}(hp:(p,r,d)∈obs 0 x.os)(h1:1<=k)(h2:k<=r)(hw:QaY h.space l (wAt h.space ((adr (szS h.space) x.fr (p+k):Nat):Int))):((adr (szS h.space) x.fr (p+k):Nat):Int)∈Qbb h.space h.sets l:=by
 generalize hq:((adr (szS h.space) x.fr (p+k):Nat):Int)=q at hw ⊢
 have hq0:0<=q:=by omega
 have hqn:q.toNat=adr (szS h.space) x.fr (p+k):=by omega
 obtain ⟨f1,f2⟩:=ZC H.sp.ok (H.sp.each x hx) hp Oo hq0 hqn
 have hslot:JE (szS h.space) BL.flatten (adr (szS h.space) x.fr (p+k)):=⟨x,hx,p,r,d,hp,k,h1,h2,rfl⟩
 have hu:U64 (wAt h.space q):=wAt_u H.sp.w q
 unfold U64 at hu
 have hw2:=hw.2
 rw [<- S.ci] at hw2
 obtain ⟨c,hc,hcf⟩:=(Qen λx hx=>(H.sp.each x (S.cin x hx)).inc.toIncC).1 hw2
 have hci:=(H.sp.each c (S.cin c hc)).inc.toIncC
 have hxi:=(H.sp.each x hx).inc.toIncC
 have b1:=hci.ch.lt _ hcf
 have b2:=hxi.ch.lt _ f1
 have hord:=step_first H hT S hc hx hn
 have hneed:Qa8 h.space q (wAt h.space q):=by
  refine ⟨⟨hw.1.1,hw.1.2,hq0,f2⟩,b2,b1,?_,?_,?_⟩
  ·rw [(hxi.ow _ b2).2 f1];have:=hxi.sq;omega
  ·rw [(hci.ow _ b1).2 hcf];have:=hci.sq;omega
  ·rw [hxi.st _ b2 f1,hci.st _ b1 hcf]
   unfold stmp at hord
   exact hord
 have hcmp:=H.cmp _ hslot (by rw [hq];exact hneed)
 rw [hq] at hcmp
 obtain ⟨y,hy,e1,e2,e3⟩:=hcmp
 unfold Qbb
 rw [WI,ZI]
 refine ⟨Qef.2 ⟨y,hy,?_,?_,e3⟩,f2,hw⟩
 ·rw [e2];exact (Qb5 H S).2 ⟨c,hc,hcf⟩
 ·rw [e1]
  intro hm
  obtain ⟨c',hc',hf'⟩:=(Qb5 H S).1 hm
  refine hxi.disj (H.sp.each c' (S.cin c' hc')).inc.toIncC (λe=>hn ?_) _ f1 hf'
  exact H.uniq hx (S.cin c' hc') e▸hc'
theorem entL_asc(s:Sp)(sets:List Qe)(l:List Inc):(Qbb s sets l).Pairwise (· < ·):=(Asc.pw.1 (Qep _ _)).filter _
theorem ent_len(H:QD h BL):(Qbb h.space h.sets l).length<=16384:=by
 have h1:=asc_le (Qep h.sets ((cfr h.space.fs l).map λ(k:Nat)=>(k:Int))) (intoL_rng H.sin)
 have h2:=WN (λ(x:Int)=>bP (x < (h.space.ws.length:Int)/\QaY h.space l (wAt h.space x))) (intoL h.sets ((cfr h.space.fs l).map λ(k:Nat)=>(k:Int)))
 unfold Qbb
 omega
theorem hdl_len(H:QD h BL):(Jj h.space h.roots l).length<=32:=by
 have h1:=WN (λi=>bP (QaY h.space l (Qr h.roots i))) (Q7 h.roots)
 have h2:=Qel h.roots
 have h3:=H.rts.u
 unfold Jj
 omega
theorem Qer{i:Nat}(hi:i∈Jj h.space h.roots l):i∈Q7 h.roots/\QaY h.space l (Qr h.roots i):=by
 unfold Jj at hi
 rw [WI,ZI] at hi
 exact hi
theorem refAt_u{r:Rts}(hr:Qar r)(i:Nat):U64 (Qr r i):=by
 unfold Qr
 cases hg:r.refs[i]? with
 | none=>show U64 0;unfold U64;omega
 | some v=>exact hr.w v (Wp hg)
theorem stpW_ok(H:QD h BL)(S:QcC h BL l C K T0):(∀ w∈stpW h l,U64 w/\RefOk h.space C w)/\(stpW h l).length<=100000:=by
 have h1:=ent_len H (l:=l)
 have h2:=hdl_len H (l:=l)
 refine ⟨λw hw=>?_,by unfold stpW;rw [Wn,Wb,Wb];omega⟩
 unfold stpW at hw
 rcases Wk.1 hw with hw | hw
 ·obtain ⟨i,hi,rfl⟩:=Wj.1 hw
  exact ⟨refAt_u H.rts i,ref_ok H S (.inr (H.roots i (Qer hi).1))⟩
 ·obtain ⟨q,hq,rfl⟩:=Wj.1 hw
  obtain ⟨q0,_,x,hx,_,p,r,d,hp,k,k1,k2,e⟩:=JJ H S hq
  refine ⟨wAt_u H.sp.w q,ref_ok H S ?_⟩
  have:=H.refs _ ⟨x,hx,p,r,d,hp,k,k1,k2,rfl⟩
  rwa [<- e,show ((q.toNat:Nat):Int)=q by omega] at this
end
section
variable{h:Hp}{BL:List (List Itm)}{l:List Inc}{C K:List Itm}{T0 T:Itm}{M:List (Nat×Nat×Nat)}
abbrev StpR(h:Hp)(l:List Inc)(C K:List Itm)(T0 T:Itm)(M:List (Nat×Nat×Nat)):Prop:=EvR h.space C K T0 (stpW h l) (Xf h l).1 (Xf h l).2 T M
theorem step_run(H:QD h BL)(hT:TgtP h.belts l)(S:QcC h BL l C K T0)(hC:EvC h.space C K T0) :
  Z6 h.space l (tgtI h l) (stpW h l)=some ((Xf h l).1.to,(Xf h l).1.mv,(Xf h l).2,0,(Xf h l).1.s.ws,(Xf h l).1.s.fs)/\∃ T M,StpR h l C K T0 T M:=by
 obtain ⟨w1,w2⟩:=stpW_ok H S
 have:=run_c hC w1 w2
 rw [S.ci,S.ti] at this
 exact this
theorem stp_lens(R:StpR h l C K T0 T M):(Xf h l).2.length=(Jj h.space h.roots l).length+(Qbb h.space h.sets l).length:=by
 rw [R.len]
 unfold stpW
 rw [Wn,Wb,Wb]
theorem stays(hC:EvC h.space C K T0)(R:StpR h l C K T0 T M){x:Itm}(hx:x∈K\/x=T0){k:Nat}(hk:k∈x.fr):∃ hl:k < (Xf h l).1.s.fs.length,¬ (Xf h l).1.s.fs[k].ow = -1:=by
 rcases hx with hx | rfl
 ·have ho:=R.inv.oth x (Wh _ hx)
  exact ⟨ho.ch.lt k hk,ho.own k hk (ho.ch.lt k hk)⟩
 ·obtain ⟨m,m1,_⟩:=R.inv.fr
  have ho:=R.inv.inc.toIncC
  have hk':k∈T.fr:=by rw [m1];exact We _ hk
  exact ⟨ho.ch.lt k hk',ho.own k hk' (ho.ch.lt k hk')⟩
theorem out_kt(S:QcC h BL l C K T0){x:Itm}(hx:x∈BL.flatten)(hn:x∉C):x∈K\/x=T0:=by
 by_cases e:x=T0
 ·exact .inr e
 ·exact .inl ((S.kin x).2 ⟨hx,hn,e⟩)
theorem stpS_ok(H:QD h BL)(S:QcC h BL l C K T0)(hC:EvC h.space C K T0)(R:StpR h l C K T0 T M):XA (ZZ h l)/\SpW (ZZ h l):=by
 have esh:(Xf h l).1.s.sh=h.space.sh:=R.inv.sh
 have key:XA ⟨(Xf h l).1.s.sh,(ZZ h l).ws,(Xf h l).1.s.fs⟩:=by
  refine sp_ws R.inv.ok (QaE _ _ _) λk hk h0 a h1 h2 e=>?_
  have hne:∀ q∈Qbb h.space h.sets l,q.toNat≠a:=λq hq ea=>by
   obtain ⟨q0,_,x,hx,hn,p,r,d,hp,j,j1,j2,e2⟩:=JJ H S hq
   have:=(ZC H.sp.ok (H.sp.each x hx) hp Oo q0 e2).1
   unfold Jf at this
   rw [ea,show szS h.space=szS (Xf h l).1.s from R.inv.z.symm,e] at this
   obtain ⟨_,k2⟩:=stays hC R (out_kt S hx hn) this
   exact k2 h0
  have:=QcN (Qbb h.space h.sets l) ((Xf h l).2.drop (Jj h.space h.roots l).length) (Xf h l).1.s.ws a hne
  exact Vq ((Wa h2).symm.trans (this.trans (Wa h1)))
 refine ⟨by rw [esh] at key;exact key,⟨λx hx=>?_,R.inv.w.2⟩⟩
 exact wrtL_all _ _ _ R.inv.w.1 (λv hv=>R.u v (List.mem_of_mem_drop hv)) x hx
def sumI(s:Sp)(l:List Inc):Int:=l.foldl (λ(n:Int) x=>n+clN s x.words) 0
theorem sumI_eq(s:Sp)(C:List Itm):sumI s (C.map Itm.i)=sumF s C:=by
 have key:∀ (C:List Itm) (n:Int),(C.map Itm.i).foldl (λ(n:Int) x=>n+clN s x.words) n=n+sumF s C:=by
  intro C
  induction C with
  | nil=>intro n;simp [sumF]
  | cons x C ih=>intro n;rw [W3,VP,ih];unfold sumF;rw [W3,UI];omega
 have:=key C 0
 unfold sumI
 rw [this];omega
abbrev hp0:Hp:=Hp.mk (Cfg.mk ⟨#[]⟩ ([]:List Rul) 0) (Sp.mk 0 ([]:List Int) ([]:List Fe)) ([]:List (List Inc)) 0 ([]:List Qe) (Rts.mk ([]:List Bool) ([]:List Int)) 0 (Sts.mk 0 0 0 0 0 0 0 0 0) false
set_option maxHeartbeats 2000000 in
theorem do_c(H:QD h BL)(l:List Inc)(hl:l.length<=1000000)(hq:h.seq<=4294967295) :
  Jm h l=some (open Classical in if TgtP h.belts l then (if sumI h.space l<=(Qj h.space.fs).length then (Zn h l,stpP h l,0) else (hp0,⟨0,0,0,0⟩,4)) else (hp0,⟨0,0,0,0⟩,1)):=by
 obtain ⟨z1,z2,z3,z4,z5⟩:=H.small
 have hok:=H.sp.ok
 refine Gd.eq ?_
 unfold Jm
 refine .call (target_c H l hl) ?_
 by_cases hT:TgtP h.belts l
 ·rw [if_pos hT,if_pos hT]
  obtain ⟨C,K,T0,S⟩:=step_parts H hT
  refine .pos rfl ?_
  refine Gd.bind (P:=λb=>b=(sumI h.space l,sumW l)) ?_ λb hb=>?_
  ·refine Gd.fold l (λ(t:Int×Int) i=>(t.1,t.2,i)) (λt x=>(t.1+clN h.space x.words,t.2+x.words)) (0,0) (λi t=>(0<=t.1/\t.1<=1099511627776 * i)/\0<=t.2/\t.2<=16384 * i) rfl (λ_ _=>rfl) Oo Os (λi hi t ht=>?_) (λht=>?_)
   ·obtain ⟨x,hx,e⟩:=hT.mem H (Wd hi)
    have hw:=(H.sp.each x hx).inc.wd
    rw [e] at hw
    have hc:=Qca hok.shp.sh l[i].words
    refine ⟨by dsimp only;omega,?_⟩
    refine .atN hi (.call (Qaq hok.shp.sh (by unfold I64;omega)) (.some ?_))
    dsimp only
    rw [Qd (n:=t.1+clN h.space l[i].words) Oo,Qd (n:=t.2+l[i].words) Oo]
   ·dsimp only
    unfold sumI sumW
    have:∀ (l:List Inc) (a b:Int),l.foldl (λ(t:Int×Int) x=>(t.1+clN h.space x.words,t.2+x.words)) (a,b)=(l.foldl (λ(n:Int) x=>n+clN h.space x.words) a,l.foldl (λ(n:Int) x=>n+x.words) b):=by
     intro l
     induction l with
     | nil=>intro a b;rfl
     | cons x l ih=>intro a b;rw [VP,VP,VP,ih]
    rw [this]
  subst hb
  refine .call (free_ok h.space Oo) ?_
  rw [Wb]
  refine .ite (λhf=>.some (by rw [if_neg (by dsimp only at hf;omega)])) λhf=>?_
  have hf:sumI h.space l<=(Qj h.space.fs).length:=by dsimp only at hf;omega
  rw [if_pos hf]
  have hneed:sumF h.space C<=(Qj h.space.fs).length:=by rw [<- sumI_eq,S.ci];exact hf
  have hC:=step_ctx H hT S hq hneed hl
  obtain ⟨hrun,T,M,R⟩:=step_run H hT S hC
  obtain ⟨ok2,w2⟩:=stpS_ok H S hC R
  have hlens:=stp_lens R
  have hent:=ent_len H (l:=l)
  have hhdl:=hdl_len H (l:=l)
  refine .call (QaP H) (.call (handles22_c hok H.rts l Oo) (.call (entries22_c hok H.sp.w H.sok H.sin l Oo) ?_))
  have hasc:=entL_asc h.space h.sets l
  have hout:∀ q∈Qbb h.space h.sets l,0<=q/\q < h.space.ws.length:=λq hq=>by
   obtain ⟨q0,_,x,hx,hn,p,r,d,hp,j,j1,j2,e2⟩:=JJ H S hq
   exact ⟨q0,(ZC hok (H.sp.each x hx) hp Oo q0 e2).2⟩
  refine Gd.bind (P:=λb=>b=(Jj h.space h.roots l).map (Qr h.roots)) ?_ λb hb=>?_
  ·refine Gd.for ((Jj h.space h.roots l).map λi=>((i+1:Nat):Int)).length (λ(t:List Int) i=>(t,i)) (λi t=>t=((Jj h.space h.roots l).take i).map (Qr h.roots)) [] rfl (λ_ _=>rfl) (by rw [Wb];omega) Os (λi hi t ht=>?_) (λt ht=>?_)
   ·rw [Wb] at hi
    have hlv:=(Qer (Wd hi)).1
    have hlt:(Jj h.space h.roots l)[i] < h.roots.refs.length:=by
     have:=(Wi.1 (Zf.1 hlv)).1
     omega
    have htl:t.length<=1000000:=by rw [ht,Wb,Ws];omega
    refine .atN (by rw [Wb];exact hi) ?_
    rw [W5]
    have e1:w64 ((((Jj h.space h.roots l)[i]+1:Nat):Int) - 1)=(((Jj h.space h.roots l)[i]:Nat):Int):=by rw [Qd Oo];omega
    rw [e1]
    refine .atN hlt (.pos (XD (l:=t) htl Oo) (.some (.inl ⟨_,rfl,?_⟩)))
    rw [QF hi,WF,ht]
    unfold Qr
    rw [UR,Wa hlt]
    rfl
   ·rw [Wb,WH] at ht
    rw [ht]
  subst hb
  refine Gd.bind (P:=λb=>b=stpW h l) ?_ λb hb=>?_
  ·refine Gd.for (Qbb h.space h.sets l).length (λ(t:List Int) i=>(t,i)) (λi t=>t=(Jj h.space h.roots l).map (Qr h.roots)++((Qbb h.space h.sets l).take i).map (wAt h.space)) _ rfl (λ_ _=>rfl) Oo Os (λi hi t ht=>?_) (λt ht=>?_)
   ·have ho:=hout _ (Wd hi)
    have htl:t.length<=1000000:=by rw [ht,Wn,Wb,Wb,Ws];omega
    refine .atN (l:=Qbb h.space h.sets l) hi (.at (i:=(Qbb h.space h.sets l)[i]) ho.1 Oo (.pos (XD (l:=t) htl Oo) (.some (.inl ⟨_,rfl,?_⟩))))
    rw [QF hi,WF,<- WX,<- ht,UR,wAt_at ho.1 Oo]
   ·rw [WH] at ht
    exact ht
  subst hb
  refine .call hrun ?_
  have ewl:(Xf h l).1.s.ws.length=h.space.ws.length:=R.inv.wl
  have efl:(Xf h l).1.s.fs.length=h.space.fs.length:=R.inv.fl
  refine .pos ewl (.pos efl (.pos rfl ?_))
  refine Gd.bind (P:=λb=>b=stpR h l) ?_ λb hb=>?_
  ·refine Gd.for ((Jj h.space h.roots l).map λi=>((i+1:Nat):Int)).length (λ(t:List Int) i=>(t,i)) (λi t=>t=wrtL h.roots.refs (((Jj h.space h.roots l).map λ(i:Nat)=>(i:Int)).take i) ((Xf h l).2.take i)) h.roots.refs rfl (λ_ _=>rfl) (by rw [Wb];omega) (by simp [wrtL]) (λi hi t ht=>?_) (λt ht=>?_)
   ·rw [Wb] at hi
    have hlv:=(Qer (Wd hi)).1
    have h32:(Jj h.space h.roots l)[i] < 32:=by
     have:=(Wi.1 (Zf.1 hlv)).1
     omega
    have hlt:(Jj h.space h.roots l)[i] < t.length:=by
     rw [ht,QaE];omega
    refine .atN (by rw [Wb];exact hi) ?_
    rw [W5]
    have e1:w64 ((((Jj h.space h.roots l)[i]+1:Nat):Int) - 1)=(((Jj h.space h.roots l)[i]:Nat):Int):=by rw [Qd Oo];omega
    rw [e1]
    refine .atN (l:=(Xf h l).2) Oo (.atN (l:=t) hlt (.some (.inl ⟨_,rfl,?_⟩)))
    rw [QF (l:=(Jj h.space h.roots l).map λ(i:Nat)=>(i:Int)) (by rw [Wb];exact hi),QF (l:=(Xf h l).2) Oo,QdZ _ _ _ _ _ (by rw [Ws,Ws,Wb];omega),<- ht,W5]
   ·rw [Wb] at ht
    unfold stpR
    rw [ht,Vb (by rw [Wb];omega)]
  subst hb
  refine Gd.bind (P:=λb=>b=(ZZ h l).ws) ?_ λb hb=>?_
  ·refine Gd.for (Qbb h.space h.sets l).length (λ(t:List Int) i=>(t,i)) (λi t=>t=wrtL (Xf h l).1.s.ws ((Qbb h.space h.sets l).take i) (((Xf h l).2.drop (Jj h.space h.roots l).length).take i)) (Xf h l).1.s.ws rfl (λ_ _=>rfl) Oo (by simp [wrtL]) (λi hi t ht=>?_) (λt ht=>?_)
   ·have ho:=hout _ (Wd hi)
    have htl:t.length=h.space.ws.length:=by rw [ht,QaE,ewl]
    refine .atN hi ?_
    have e1:w64 ((((Jj h.space h.roots l).map λi=>((i+1:Nat):Int)).length:Int)+(i:Int))=(((Jj h.space h.roots l).length+i:Nat):Int):=by rw [Wb,Qd Oo];push_cast;rfl
    dsimp only
    rw [e1]
    refine .atN (l:=(Xf h l).2) Oo (.at ho.1 Oo (.some (.inl ⟨_,rfl,?_⟩)))
    rw [QF hi,QF (l:=(Xf h l).2.drop (Jj h.space h.roots l).length) (by rw [WY];omega),QdZ _ _ _ _ _ (by rw [Ws,Ws,WY];omega),<- ht,Ys]
   ·rw [WH,Vb (by rw [WY];omega)] at ht
    exact ht
  subst hb
  have hmv:∀ m∈(Xf h l).1.mv,I64 m.to:=λm hm=>by
   rw [R.inv.mv] at hm
   obtain ⟨o,ho,rfl⟩:=Wj.1 hm
   have hin:=Jg M _ o ho
   have:=ev_adr R.inv (q:=o.2.1) (by have:=Qbq R.inv;omega)
   unfold I64
   dsimp only
   omega
  have hmvl:=(ev_len hC R.inv)
  have hren:=renew24_c ok2 w2 H.sok H.sin l Oo (ps:=Qbb h.space h.sets l) (λq hq=>by
   have:=hout q hq
   have e:(ZZ h l).ws.length=h.space.ws.length:=(QaE _ _ _).trans ewl
   rw [e];exact this) Oo hmv Oo
  refine .call (a:=(renK (ZZ h l) h.sets l (Qbb h.space h.sets l) (Xf h l).1.mv,(ZZ h l).ws,(ZZ h l).fs)) (by
   show Zb (ZZ h l) h.sets l (Qbb h.space h.sets l) (Xf h l).1.mv=_
   rw [renew2_eq,hren];rfl) ?_
  refine .pos rfl (.pos rfl ?_)
  refine Gd.bind (P:=λb=>b=((Qaj (ZZ h l) l).ws,(Qaj (ZZ h l) l).fs,remA h.belts l)) ?_ λb hb=>?_
  ·exact clear_loop ok2.shp H.bsz H.dist (λi hi=>by
    obtain ⟨x,hx,e⟩:=hT.mem H hi
    exact ⟨i,by rw [H.flat,<- e];exact WT hx,rfl⟩) hT.nodup hl rfl
  subst hb
  have eto:(Xf h l).1.to=T.i:=R.inv.to
  have hrB:BSz (remA h.belts l):=by
   rw [QaH]
   have hb:=H.bsz
   refine ⟨by rw [Wb];exact hb.1,λp hp=>?_⟩
   obtain ⟨b,hb2,rfl⟩:=Wj.1 hp
   have:=hb.2 b hb2
   have:=WN (λx:Inc=>!decide (x.seq∈l.map Inc.seq)) b
   omega
  have hbn:(remA h.belts l).length=h.config.rules.length:=by rw [QaH,Wb,H.bl,Wb,H.bn]
  have htb:=S.tb
  rw [S.ti] at htb
  have hsq:=R.inv.sq
  have htoB:(Xf h l).1.to.belt=(tgtI h l).belt/\(Xf h l).1.to.seq=(tgtI h l).seq:=by rw [eto,hsq.1,hsq.2.1,S.ti];exact ⟨rfl,rfl⟩
  refine Gd.bind (P:=λb=>b=stpB h l) ?_ λb hb=>?_
  ·unfold stpB
   refine .ite (λhw=>?_) λhw=>?_
   ·rw [if_pos hw]
    have hw0:T0∈BL.flatten:=S.tw.1 (by rw [S.ti];exact hw)
    have hT0C:T0∉C:=by
     rcases S.tin with k | ⟨b,e⟩
     ·exact k.2
     ·intro k
      have:=H.sq T0 (S.cin T0 k)
      rw [e] at this
      dsimp only at this
      omega
    have hbl2:(Xf h l).1.to.belt.toNat < (remA h.belts l).length:=by rw [htoB.1,hbn];omega
    refine .call (Qd5 hrB (by rw [htoB.1];exact htb.1) hbl2 ?_ ?_) (.some rfl)
    ·have hd:=H.dist
     have key:∀ q∈remA h.belts l,q.Pairwise λx y=>x.seq≠y.seq:=λq hq=>by
      rw [QaH] at hq
      obtain ⟨p,hp,rfl⟩:=Wj.1 hq
      exact ((List.pairwise_flatten.1 hd).1 p hp).filter _
     exact key _ (Wd hbl2)
    ·obtain ⟨b,hb,hxb,hbelt⟩:=H.belt_in hw0
     have hbb:(Xf h l).1.to.belt.toNat=b:=by rw [htoB.1,<- S.ti,hbelt];rfl
     refine ⟨T0.i,?_,by rw [htoB.2,S.ti]⟩
     have hb3:b < (remA h.belts l).length:=by rw [<- hbb];exact hbl2
     have e3:(remA h.belts l)[(Xf h l).1.to.belt.toNat]'hbl2=(remA h.belts l)[b]'hb3:=by congr
     rw [e3]
     have e4:(remA h.belts l)[b]'hb3=(BL[b].map Itm.i).filter λx=>!decide (x.seq∈l.map Inc.seq):=by
      have:(remA h.belts l)[b]?=some ((BL[b].map Itm.i).filter λx=>!decide (x.seq∈l.map Inc.seq)):=by
       rw [QaH,Wg,H.bl_at hb];rfl
      rw [Wa hb3] at this
      injection this
     rw [e4,WI]
     refine ⟨WT hxb,?_⟩
     simp only [Vn,decide_eq_false_iff_not]
     intro hm
     rw [<- S.ci,WS] at hm
     obtain ⟨y,hy,e⟩:=Wj.1 hm
     exact hT0C (H.uniq (S.cin y hy) hw0 e▸hy)
   ·rw [if_neg hw]
    refine .ite (λhw2=>?_) λhw2=>.some (by rw [if_neg hw2])
    rw [if_pos hw2]
    refine .call (add11_c hrB (by rw [htoB.1,hbn];exact htb) λy hy=>?_) (.some rfl)
    have hym:y∈(remA h.belts l).flatten:=by
     unfold yngR at hy
     split at hy
     ·cases hy
     ·cases hb:(remA h.belts l)[(Xf h l).1.to.belt.toNat]? with
      | none=>rw [hb] at hy;cases hy
      | some q =>
       rw [hb,WZ] at hy
       exact Vc.2 ⟨q,Wp hb,VT hy⟩
    have hym2:y∈h.belts.flatten:=by
     rw [QaH] at hym
     obtain ⟨q,hq,hyq⟩:=Vc.1 hym
     obtain ⟨p,hp,rfl⟩:=Wj.1 hq
     exact Vc.2 ⟨p,hp,(WI.1 hyq).1⟩
    rw [H.flat] at hym2
    obtain ⟨x,hx,rfl⟩:=Wj.1 hym2
    have:=H.sq x hx
    rw [htoB.2]
    rcases S.tin with k | ⟨b,e⟩
    ·exfalso
     have:=S.tw.2 k.1
     rw [S.ti] at this
     exact hw this
    ·rw [<- S.ti,e];exact this
  subst hb
  refine .call (live20_c h.roots Oo) (.some ?_)
  rw [Wb]
  rfl
 ·rw [if_neg hT,if_neg hT]
  exact .neg Od (.some rfl)
end
theorem JU:∀ (l:List Inc) (s:Sp),(∀ i∈l,0<=i.seq)->(∀ k:Nat,(Qaj s l).fs[k]?=(s.fs[k]?).map λf=>if f.ow∈l.map Inc.seq then feF else f)/\(∀ a:Nat,(Qaj s l).ws[a]?=(s.ws[a]?).map λw=>if isC s.fs l (a / szS s)=true then 0 else w)
 | [],s,_=>by
  refine ⟨λk=>?_,λa=>?_⟩
  ·show s.fs[k]?=_
   cases s.fs[k]? <;> simp
  ·show s.ws[a]?=_
   have:isC s.fs [] (a / szS s)=false:=by
    unfold isC
    cases s.fs[a / szS s]? <;> simp
   rw [this]
   cases s.ws[a]? <;> simp
 | x :: l,s,h=>by
  have hx:=h x (Wz ..)
  obtain ⟨h1,h2⟩:=JU l ⟨s.sh,Qa6 (szS s) s.fs x.seq s.ws,JT s.fs x.seq⟩ λi hi=>h i (Wm _ hi)
  have hl:¬ (-1:Int)∈l.map Inc.seq:=λhm=>by
   obtain ⟨i,hi,e⟩:=Wj.1 hm
   have:=h i (Wm _ hi)
   omega
  have hf1:∀ k:Nat,(JT s.fs x.seq)[k]?=(s.fs[k]?).map λf=>if f.ow=x.seq then feF else f:=λk=>by unfold JT;rw [Wg]
  refine ⟨λk=>?_,λa=>?_⟩
  ·show (Qaj ⟨s.sh,Qa6 (szS s) s.fs x.seq s.ws,JT s.fs x.seq⟩ l).fs[k]?=_
   rw [h1 k]
   dsimp only
   rw [hf1 k]
   cases s.fs[k]? with
   | none=>rfl
   | some f =>
    simp only [Wu,W3,Wv]
    by_cases e:f.ow=x.seq
    ·simp [e,hl]
    ·simp [e]
  ·show (Qaj ⟨s.sh,Qa6 (szS s) s.fs x.seq s.ws,JT s.fs x.seq⟩ l).ws[a]?=_
   rw [h2 a]
   dsimp only
   rw [show szS ⟨s.sh,Qa6 (szS s) s.fs x.seq s.ws,JT s.fs x.seq⟩=szS s from rfl]
   unfold Qa6
   rw [List.getElem?_mapIdx]
   cases s.ws[a]? with
   | none=>rfl
   | some w =>
    simp only [Wu]
    congr 1
    unfold isC isOw
    rw [hf1]
    cases s.fs[a / szS s]? with
    | none=>rfl
    | some f =>
     simp only [Wu,W3,Wv]
     by_cases e:f.ow=x.seq
     ·simp [e,hl]
     ·simp [e]
theorem Qbr(l:List Inc)(s:Sp)(h:∀ i∈l,0<=i.seq):(Qaj s l).fs.length=s.fs.length/\(Qaj s l).ws.length=s.ws.length:=by
 obtain ⟨h1,h2⟩:=JU l s h
 constructor
 ·apply Nat.le_antisymm
  ·rw [<- VY,h1,Wf (Wo _)];rfl
  ·rw [<- VY]
   have:=h1 (Qaj s l).fs.length
   rw [Wf (Wo _)] at this
   cases hk:s.fs[(Qaj s l).fs.length]? with
   | none=>rfl
   | some f=>rw [hk] at this;cases this
 ·apply Nat.le_antisymm
  ·rw [<- VY,h2,Wf (Wo _)];rfl
  ·rw [<- VY]
   have:=h2 (Qaj s l).ws.length
   rw [Wf (Wo _)] at this
   cases hk:s.ws[(Qaj s l).ws.length]? with
   | none=>rfl
   | some f=>rw [hk] at this;cases this
section
variable{s:Sp}{l:List Inc}
theorem QaQ(h:∀ i∈l,0<=i.seq){k:Nat}(hk:k < s.fs.length)(hc:¬ isC s.fs l k=true):∃ hk':k < (Qaj s l).fs.length,(Qaj s l).fs[k]=s.fs[k]:=by
 obtain ⟨h1,_⟩:=JU l s h
 have hk':k < (Qaj s l).fs.length:=by rw [(Qbr l s h).1];exact hk
 refine ⟨hk',?_⟩
 have:=h1 k
 rw [Wa hk',Wa hk,Wu] at this
 rw [Qcw hk,decide_eq_true_iff] at hc
 rw [if_neg hc] at this
 injection this
theorem JL(h:∀ i∈l,0<=i.seq){k:Nat}(hc:isC s.fs l k=true):∃ hk':k < (Qaj s l).fs.length,(Qaj s l).fs[k]=feF:=by
 obtain ⟨h1,_⟩:=JU l s h
 obtain ⟨hk,hm⟩:=Qbl.1 hc
 have hk':k < (Qaj s l).fs.length:=by rw [(Qbr l s h).1];exact hk
 refine ⟨hk',?_⟩
 have:=h1 k
 rw [Wa hk',Wa hk,Wu,if_pos hm] at this
 injection this
theorem clrA_word(h:∀ i∈l,0<=i.seq){a:Nat}(hc:¬ isC s.fs l (a / szS s)=true):(Qaj s l).ws[a]?=s.ws[a]?:=by
 rw [(JU l s h).2 a]
 cases s.ws[a]? with
 | none=>rfl
 | some w=>rw [Wu,if_neg hc]
theorem clrA_z(l:List Inc)(s:Sp):szS (Qaj s l)=szS s:=by unfold szS;rw [clrA_sh]
theorem clrA_ok(hs:XA s)(h:∀ i∈l,0<=i.seq):XA (Qaj s l):=by
 obtain ⟨L1,L2⟩:=Qbr l s h
 have hz:=clrA_z l s
 have hnx:=Z1 hs.fm
 have hnext:∀ k (hk:k < s.fs.length),¬ isC s.fs l k=true->∀ j (hj:j < s.fs.length),s.fs[k].nx=(j:Int)->¬ isC s.fs l j=true:=λk hk hc j hj e=>by
  rcases hs.fm k hk with f | f
  ·have:=f.2.2.1;omega
  ·obtain ⟨h1,_⟩:=f.2.2.2.2 j hj e
   rw [Qcw hj,h1,<- Qcw hk]
   exact hc
 have hnf:∀ f:Int,(f < 0\/¬ isC s.fs l f.toNat=true)->nxF (Qaj s l).fs f=nxF s.fs f/\(nxF s.fs f < 0\/¬ isC s.fs l (nxF s.fs f).toNat=true):=λf hf=>by
  by_cases h0:0<=f/\f.toNat < s.fs.length
  ·have hc:¬ isC s.fs l f.toNat=true:=by
    rcases hf with hf | hf
    ·omega
    ·exact hf
   obtain ⟨k1,k2⟩:=QaQ h h0.2 hc
   rw [nxF_z h0.1 k1,nxF_z h0.1 h0.2,k2]
   refine ⟨rfl,?_⟩
   rcases UY s.fs[f.toNat].nx 0 with q | q
   ·exact .inl q
   ·right
    have:=hnx f.toNat h0.2
    exact hnext _ h0.2 hc s.fs[f.toNat].nx.toNat Oo Oo
  ·have e1:nxF s.fs f = -1:=by unfold nxF;rw [dif_neg h0]
   have e2:nxF (Qaj s l).fs f = -1:=by unfold nxF;rw [dif_neg (by rw [L1];exact h0)]
   rw [e1,e2]
   exact ⟨rfl,.inl Oo⟩
 have hit:∀ (n:Nat) (f:Int),(f < 0\/¬ isC s.fs l f.toNat=true)->itF (Qaj s l).fs n f=itF s.fs n f:=by
  intro n
  induction n with
  | zero=>intro f _;rfl
  | succ n ih =>
   intro f hf
   obtain ⟨e,k⟩:=hnf f hf
   show itF (Qaj s l).fs n (nxF (Qaj s l).fs f)=itF s.fs n (nxF s.fs f)
   rw [e]
   exact ih _ k
 refine ⟨⟨by rw [clrA_sh];exact hs.shp.sh,by rw [L1];exact hs.shp.lo,by rw [L1];exact hs.shp.hi,by rw [L1,L2,hz];exact hs.shp.wl⟩,λk hk=>?_,λi j hi hj hij hjn e=>?_,λi hi=>?_⟩
 ·rw [L1] at hk
  by_cases hc:isC s.fs l k=true
  ·obtain ⟨k1,k2⟩:=JL h hc
   left
   rw [k2]
   refine ⟨rfl,rfl,rfl,λa ha h1 h2=>?_⟩
   rw [hz] at h1 h2
   have hd:a / szS s=k:=UH h1 h2
   have:=(JU l s h).2 a
   rw [hd,Wa ha,Wa (by rw [<- L2];exact ha),Wu,if_pos hc] at this
   injection this
  ·obtain ⟨k1,k2⟩:=QaQ h hk hc
   rw [k2]
   rcases hs.fm k hk with f | f
   ·left
    refine ⟨f.1,f.2.1,f.2.2.1,λa ha h1 h2=>?_⟩
    rw [hz] at h1 h2
    have hd:a / szS s=k:=UH h1 h2
    have hla:a < s.ws.length:=by rw [<- L2];exact ha
    have:=clrA_word (s:=s) h (a:=a) (by rw [hd];exact hc)
    rw [Wa ha,Wa hla] at this
    injection this with this
    rw [this]
    exact f.2.2.2 a hla h1 h2
   ·right
    refine ⟨f.1,f.2.1,by rw [L1];exact f.2.2.1,f.2.2.2.1,λj hj e=>?_⟩
    rw [L1] at hj
    obtain ⟨j1,j2⟩:=QaQ h hj (hnext k hk hc j hj e)
    rw [j2]
    exact f.2.2.2.2 j hj e
 ·have hi':=hi
  have hj':=hj
  rw [L1] at hi' hj' hjn
  by_cases ci:isC s.fs l i=true
  ·obtain ⟨_,k2⟩:=JL h ci
   rw [k2]
  ·obtain ⟨_,k2⟩:=QaQ h hi' ci
   by_cases cj:isC s.fs l j=true
   ·obtain ⟨_,k3⟩:=JL h cj
    rw [e,k3]
   ·obtain ⟨_,k3⟩:=QaQ h hj' cj
    rw [k2] at e ⊢
    rw [k3] at e
    exact hs.uq i j hi' hj' hij hjn e
 ·rw [L1] at hi ⊢
  by_cases ci:isC s.fs l i=true
  ·obtain ⟨k1,k2⟩:=JL h ci
   show itF (Qaj s l).fs s.fs.length (nxF (Qaj s l).fs (i:Int)) = -1
   rw [nxF_at k1,k2]
   exact JD _ rfl
  ·rw [hit _ _ (.inr (by simpa using ci))]
   exact hs.ends i hi
theorem clrA_w(hW:SpW s)(h:∀ i∈l,0<=i.seq):SpW (Qaj s l):=by
 obtain ⟨h1,h2⟩:=JU l s h
 refine ⟨λx hx=>?_,λf hf=>?_⟩
 ·obtain ⟨a,ha⟩:=W6.1 hx
  rw [h2 a] at ha
  cases hw:s.ws[a]? with
  | none=>rw [hw] at ha;cases ha
  | some w =>
   rw [hw,Wu] at ha
   injection ha with ha
   rw [<- ha]
   split
   ·unfold U64;omega
   ·exact hW.1 w (Wp hw)
 ·obtain ⟨a,ha⟩:=W6.1 hf
  rw [h1 a] at ha
  cases hw:s.fs[a]? with
  | none=>rw [hw] at ha;cases ha
  | some w =>
   rw [hw,Wu] at ha
   injection ha with ha
   rw [<- ha]
   split
   ·unfold I64;dsimp only;omega
   ·exact hW.2 w (Wp hw)
theorem clrA_inc(h:∀ i∈l,0<=i.seq){i:Inc}{fr:List Nat}(hi:IncC s.fs i fr)(hn:i.seq∉l.map Inc.seq):IncC (Qaj s l).fs i fr:=by
 obtain ⟨L1,L2⟩:=Qbr l s h
 refine hi.keep L1 (D:=λk=>isC s.fs l k=true) (λk hk _ hc=>(QaQ h hk hc).2) λk hk hc=>?_
 obtain ⟨k1,k2⟩:=JL h hc
 refine ⟨λhm=>?_,by rw [k2];have:=hi.sq;show (-1:Int)≠i.seq;omega⟩
 obtain ⟨hk2,hm2⟩:=Qbl.1 hc
 rw [(hi.ow k hk2).2 hm] at hm2
 exact hn hm2
end
structure StX(h:Hp)(BL:List (List Itm))(l:List Inc)(C K:List Itm)(T0 T:Itm)(M:List (Nat×Nat×Nat)):Prop where
 H:QD h BL
 tgt:TgtP h.belts l
 S:QcC h BL l C K T0
 ctx:EvC h.space C K T0
 R:StpR h l C K T0 T M
 q:h.seq<=4294967294
theorem wAt_opt{s t:Sp}{a b:Nat}(h:s.ws[a]?=t.ws[b]?)(hb:b < t.ws.length):wAt s (a:Int)=wAt t (b:Int):=by
 rw [Wa hb] at h
 rw [Xy h,Xy (Wa hb)]
theorem obj_inj{h:Hp}{BL:List (List Itm)}(H:QD h BL){x y:Itm}(hx:x∈BL.flatten)(hy:y∈BL.flatten){p r d k p' r' d' k':Nat}(hp:(p,r,d)∈obs 0 x.os)(hp':(p',r',d')∈obs 0 y.os)(hk:k<=r+d)(hk':k'<=r'+d')
  (e:adr (szS h.space) x.fr (p+k)=adr (szS h.space) y.fr (p'+k')):x=y/\p=p'/\r=r'/\d=d'/\k=k':=by
 have hz:=(XC H.sp.ok.shp.sh).2.2.1
 have hX:=H.sp.each x hx
 have hY:=H.sp.each y hy
 have b1:=Itm.posOk H.sp.ok hX hp
 have b2:=Itm.posOk H.sp.ok hY hp'
 have exy:x=y:=by
  refine H.uniq hx hy (Classical.byContradiction λhne=>?_)
  exact Qdg Oo (hX.inc.toIncC.disj hY.inc.toIncC hne) (p:=p+k) (q:=p'+k') Oo Oo e
 subst exy
 have:=QaS Oo hX.inc.nd (p:=p+k) (q:=p'+k') Oo Oo e
 rcases obs_sep hp hp' with q | q | q
 ·injection q with q1 q2
  injection q2 with q2 q3
  exact ⟨rfl,q1,q2,q3,Oo⟩
 ·dsimp only at q;omega
 ·dsimp only at q;omega
section
variable{h:Hp}{BL:List (List Itm)}{l:List Inc}{C K:List Itm}{T0 T:Itm}{M:List (Nat×Nat×Nat)}
theorem StX.ln(X:StX h BL l C K T0 T M):∀ i∈l,0<=i.seq:=λi hi=>by
 obtain ⟨x,hx,e⟩:=X.tgt.mem X.H hi
 rw [<- e]
 exact (X.H.sp.each x hx).inc.sq.1
theorem StX.z(X:StX h BL l C K T0 T M):8<=szS h.space:=X.ctx.z0
theorem StX.z2(X:StX h BL l C K T0 T M):szS (ZZ h l)=szS h.space:=rfl
theorem StX.z3(X:StX h BL l C K T0 T M):szS (Zn h l).space=szS h.space:=rfl
theorem StX.len2(X:StX h BL l C K T0 T M):(ZZ h l).ws.length=h.space.ws.length/\(ZZ h l).fs.length=h.space.fs.length:=⟨(QaE _ _ _).trans X.R.inv.wl,X.R.inv.fl⟩
theorem StX.len3(X:StX h BL l C K T0 T M):(Zn h l).space.ws.length=h.space.ws.length/\(Zn h l).space.fs.length=h.space.fs.length:=by
 rw [Qd2]
 obtain ⟨a,b⟩:=Qbr l (ZZ h l) X.ln
 exact ⟨b.trans X.len2.1,a.trans X.len2.2⟩
theorem StX.ok2(X:StX h BL l C K T0 T M):XA (ZZ h l)/\SpW (ZZ h l):=stpS_ok X.H X.S X.ctx X.R
theorem StX.ok3(X:StX h BL l C K T0 T M):XA (Zn h l).space/\SpW (Zn h l).space:=by
 rw [Qd2]
 exact ⟨clrA_ok X.ok2.1 X.ln,clrA_w X.ok2.2 X.ln⟩
theorem StX.isC2(X:StX h BL l C K T0 T M){k:Nat}:isC (ZZ h l).fs l k=true<->∃ c∈C,k∈c.fr:=by
 have:=Qen (fs:=(ZZ h l).fs) (C:=C) (k:=k) λx hx=>X.R.inv.oth x (We _ hx)
 rw [X.S.ci] at this
 exact this
theorem StX.kb(X:StX h BL l C K T0 T M){x:Itm}(hx:x∈K):x∈BL.flatten/\x∉C/\x≠T0:=(X.S.kin x).1 hx
theorem StX.noC(X:StX h BL l C K T0 T M){x:Itm}(hx:x∈K\/x=T){k:Nat}(hk:k∈x.fr):¬ isC (ZZ h l).fs l k=true:=by
 rw [X.isC2]
 rintro ⟨c,hc,hkc⟩
 have hci:=X.R.inv.oth c (We _ hc)
 rcases hx with hx | rfl
 ·exact hci.disj (X.R.inv.oth x (Wh _ hx)) (X.ctx.sqK c hc x hx) k hkc hk
 ·exact hci.disj X.R.inv.inc.toIncC (by rw [X.R.inv.sq.1];exact X.ctx.sqT c (We _ hc)) k hkc hk
theorem StX.tfr(X:StX h BL l C K T0 T M):∃ m,T.fr=T0.fr++m:=by
 obtain ⟨m,m1,_⟩:=X.R.inv.fr
 exact ⟨_,m1⟩
theorem StX.t0room(X:StX h BL l C K T0 T M):T0.i.words.toNat<=T0.fr.length * szS h.space:=X.ctx.t0.inc.room X.ctx.ok
theorem StX.tadr(X:StX h BL l C K T0 T M){p:Nat}(hp:p < T0.i.words.toNat):adr (szS h.space) T.fr p=adr (szS h.space) T0.fr p:=by
 obtain ⟨m,e⟩:=X.tfr
 have:=X.t0room
 have:=X.z
 rw [e]
 exact ZO Oo Oo
theorem StX.w3(X:StX h BL l C K T0 T M){x:Itm}(hx:x∈K\/x=T){p:Nat}(hp:p < x.fr.length * szS h.space):(Zn h l).space.ws[adr (szS h.space) x.fr p]?=(ZZ h l).ws[adr (szS h.space) x.fr p]?:=by
 rw [Qd2]
 have hz:=X.z
 refine clrA_word X.ln ?_
 rw [X.z2]
 exact X.noC hx (adr_fr Oo hp)
theorem StX.w2(X:StX h BL l C K T0 T M){a:Nat}(hn:∀ q∈Qbb h.space h.sets l,q.toNat≠a):(ZZ h l).ws[a]?=(Xf h l).1.s.ws[a]?:=QcN _ _ _ _ hn
theorem StX.old(X:StX h BL l C K T0 T M){x:Itm}(hx:x∈K\/x=T0){p r d k:Nat}(hp:(p,r,d)∈obs 0 x.os)(hk:k<=r+d) :
  x∈BL.flatten/\(Xf h l).1.s.ws[adr (szS h.space) x.fr (p+k)]?=h.space.ws[adr (szS h.space) x.fr (p+k)]?/\(Zn h l).space.ws[adr (szS h.space) x.fr (p+k)]?=(ZZ h l).ws[adr (szS h.space) x.fr (p+k)]?/\adr (szS h.space) x.fr (p+k) < h.space.ws.length:=by
 rcases hx with hx | rfl
 ·have hX:=X.ctx.ks x hx
  have b:=Itm.posOk X.ctx.ok hX hp
  refine ⟨(X.kb hx).1,X.R.inv.kw x hx _ Oo,X.w3 (.inl hx) Oo,Jt X.ctx.ok.shp hX.inc.ch.lt Oo⟩
 ·have hX:=X.ctx.t0
  have b:=Itm.posOk X.ctx.ok hX hp
  have hin:=hX.lay.get _ hp
  dsimp only at hin
  have hT0:x∈BL.flatten:=by
   rcases X.S.tin with k | ⟨b,e⟩
   ·exact k.1
   ·rw [e] at hp;cases hp
  obtain ⟨m,e⟩:=X.tfr
  have ea:adr (szS h.space) T.fr (p+k)=adr (szS h.space) x.fr (p+k):=X.tadr Oo
  refine ⟨hT0,?_,?_,Jt X.ctx.ok.shp hX.inc.ch.lt Oo⟩
  ·have:=X.R.inv.tw (p+k) Oo
   rwa [ea] at this
  ·have:=X.w3 (x:=T) (.inr rfl) (p:=p+k) (by rw [e,Wn,Vu];omega)
   rwa [ea] at this
theorem StX.notC(X:StX h BL l C K T0 T M){x:Itm}(hx:x∈K\/x=T0):x∉C:=by
 rcases hx with hx | rfl
 ·exact (X.kb hx).2.1
 ·rcases X.S.tin with k | ⟨b,e⟩
  ·exact k.2
  ·intro hc
   have:=X.H.sq x (X.S.cin x hc)
   rw [e] at this
   dsimp only at this
   omega
theorem StX.w_old(X:StX h BL l C K T0 T M){x:Itm}(hx:x∈K\/x=T0){p r d k:Nat}(hp:(p,r,d)∈obs 0 x.os)(hk:k<=r+d)(hk2:k=0\/r < k) :
  (Zn h l).space.ws[adr (szS h.space) x.fr (p+k)]?=h.space.ws[adr (szS h.space) x.fr (p+k)]?:=by
 obtain ⟨hxb,e1,e2,e3⟩:=X.old hx hp hk
 rw [e2,X.w2 λq hq e=>?_,e1]
 obtain ⟨q0,_,y,hy,hn,p',r',d',hp',k',k1,k2,eq⟩:=JJ X.H X.S hq
 rw [eq] at e
 obtain ⟨_,_,g1,g2,g3⟩:=obj_inj X.H hy hxb hp' hp Oo hk e
 omega
theorem ent_idx{l:List Int}(h:l.Pairwise (· < ·))(h0:∀ q∈l,0<=q):l.Pairwise λa b=>a.toNat≠b.toNat:=by
 refine Wx.2 λi j hi hj hij e=>?_
 have h1:=Wx.1 h i j hi hj hij
 have h2:=h0 _ (Wd hi)
 have h3:=h0 _ (Wd hj)
 omega
theorem StX.r_old(X:StX h BL l C K T0 T M){x:Itm}(hx:x∈K\/x=T0){p r d k:Nat}(hp:(p,r,d)∈obs 0 x.os)(h1:1<=k)(h2:k<=r) :
  ImgP h.space C (Xf h l).1.mv (wAt h.space ((adr (szS h.space) x.fr (p+k):Nat):Int)) (wAt (Zn h l).space ((adr (szS h.space) x.fr (p+k):Nat):Int)) /\
   (((adr (szS h.space) x.fr (p+k):Nat):Int)∉Qbb h.space h.sets l->wAt (Zn h l).space ((adr (szS h.space) x.fr (p+k):Nat):Int)=wAt h.space ((adr (szS h.space) x.fr (p+k):Nat):Int)/\¬ QaY h.space l (wAt h.space ((adr (szS h.space) x.fr (p+k):Nat):Int))):=by
 obtain ⟨hxb,e1,e2,e3⟩:=X.old hx hp (k:=k) Oo
 by_cases hm:((adr (szS h.space) x.fr (p+k):Nat):Int)∈Qbb h.space h.sets l
 ·refine ⟨?_,λhn=>absurd hm hn⟩
  obtain ⟨j,hj⟩:=W6.1 hm
  obtain ⟨hjl,hje⟩:=Wi.1 hj
  have hlens:=stp_lens X.R
  have h0:∀ q∈Qbb h.space h.sets l,0<=q:=λq hq=>(JJ X.H X.S hq).1
  have hv:((Xf h l).2.drop (Jj h.space h.roots l).length)[j]?=some ((Xf h l).2[(Jj h.space h.roots l).length+j]' Oo):=by
   rw [Ve,Wa Oo]
  have hwr:=wrtL_at (Qbb h.space h.sets l) ((Xf h l).2.drop (Jj h.space h.roots l).length) (Xf h l).1.s.ws (ent_idx (entL_asc _ _ _) h0) (by rw [WY];omega) (λq hq=>by
   obtain ⟨q0,_,y,hy,hn,p',r',d',hp',k',k1,k2,eq⟩:=JJ X.H X.S hq
   have:=(ZC X.H.sp.ok (X.H.sp.each y hy) hp' (k:=k') Oo q0 eq).2
   rw [X.R.inv.wl];omega) j _ _ hj hv
  rw [Wc] at hwr
  have e4:(Zn h l).space.ws[adr (szS h.space) x.fr (p+k)]?=some ((Xf h l).2[(Jj h.space h.roots l).length+j]' Oo):=e2.trans hwr
  rw [Xy e4]
  refine X.R.img ((Jj h.space h.roots l).length+j) _ _ ?_ (Wa Oo)
  unfold stpW
  rw [WJ (by rw [Wb];omega),Wb,UT,Wg,hj]
  rfl
 ·have e4:(Zn h l).space.ws[adr (szS h.space) x.fr (p+k)]?=h.space.ws[adr (szS h.space) x.fr (p+k)]?:=by
   rw [e2,X.w2 λq hq e=>?_,e1]
   have:=(JJ X.H X.S hq).1
   exact hm (by rw [<- e,show ((q.toNat:Nat):Int)=q by omega];exact hq)
  have e5:=wAt_opt e4 e3
  have hnw:¬ QaY h.space l (wAt h.space ((adr (szS h.space) x.fr (p+k):Nat):Int)):=λhw=>hm (slot_in X.H X.tgt X.S hxb (X.notC hx) hp h1 h2 hw)
  rw [e5]
  exact ⟨.inl ⟨by rw [X.S.ci];exact hnw,rfl⟩,λ_=>⟨rfl,hnw⟩⟩
theorem StX.new(X:StX h BL l C K T0 T M){o:Nat×Nat×Nat×Nat}(ho:o∈nob T0.i.words.toNat M){k:Nat}(hk:k<=o.2.2.1+o.2.2.2) :
  (Zn h l).space.ws[adr (szS h.space) T.fr (o.2.1+k)]?=(Xf h l).1.s.ws[adr (szS h.space) T.fr (o.2.1+k)]?/\((adr (szS h.space) T.fr (o.2.1+k):Nat):Int)∉Qbb h.space h.sets l/\o.2.1+k < T.fr.length * szS h.space:=by
 have hz:=X.z
 have hroom:=Qbq X.R.inv
 have hin:=Jg M _ o ho
 have hne:∀ q∈Qbb h.space h.sets l,q.toNat≠adr (szS h.space) T.fr (o.2.1+k):=λq hq e=>by
  obtain ⟨q0,_,y,hy,hn,p',r',d',hp',k',k1,k2,eq⟩:=JJ X.H X.S hq
  rw [eq] at e
  have b:=Itm.posOk X.H.sp.ok (X.H.sp.each y hy) hp'
  rcases out_kt X.S hy hn with hK | rfl
  ·exact Qdg Oo ((X.R.inv.oth y (Wh _ hK)).disj X.R.inv.inc.toIncC (by rw [X.R.inv.sq.1];exact X.ctx.sqT y (Wh _ hK))) (p:=p'+k') (q:=o.2.1+k) Oo Oo e
  ·have hg:=(X.H.sp.each y hy).lay.get _ hp'
   dsimp only at hg
   rw [<- X.tadr (p:=p'+k') Oo] at e
   have:=QaS Oo X.R.inv.inc.nd (p:=p'+k') (q:=o.2.1+k) Oo Oo e
   omega
 refine ⟨(X.w3 (.inr rfl) Oo).trans (X.w2 hne),λhm=>hne _ hm (by rw [Wc]),Oo⟩
theorem StX.w_new(X:StX h BL l C K T0 T M){o:Nat×Nat×Nat×Nat}(ho:o∈nob T0.i.words.toNat M) :
  (Zn h l).space.ws[adr (szS h.space) T.fr o.2.1]?=some (hdW o.2.2.1 o.2.2.2)/\∀ k,o.2.2.1 < k->k<=o.2.2.1+o.2.2.2->(Zn h l).space.ws[adr (szS h.space) T.fr (o.2.1+k)]?=h.space.ws[srcA h.space o.1 k]?:=by
 refine ⟨?_,λk h1 h2=>(X.new ho h2).1.trans (X.R.inv.dat o ho k h1 h2)⟩
 have:=(X.new ho (k:=0) Oo).1
 rw [VI] at this
 exact this.trans (X.R.inv.hd o ho)
theorem StX.r_new(X:StX h BL l C K T0 T M){o:Nat×Nat×Nat×Nat}(ho:o∈nob T0.i.words.toNat M){k:Nat}(h1:1<=k)(h2:k<=o.2.2.1) :
  ImgP h.space C (Xf h l).1.mv (wAt h.space ((srcA h.space o.1 k:Nat):Int)) (wAt (Zn h l).space ((adr (szS h.space) T.fr (o.2.1+k):Nat):Int)):=by
 obtain ⟨j,hj⟩:=W6.1 ho
 have hjl:j < M.length:=by have:=(Wi.1 hj).1;rwa [QcU] at this
 have:=X.R.inv.ref j o hj k h1 h2
 rw [if_pos (.inl hjl)] at this
 obtain ⟨w,v,e1,e2,e3⟩:=this
 have e4:=(X.new ho (k:=k) Oo).1.trans e2
 rw [Xy e1,Xy e4]
 exact e3
end
theorem Lay.heads{z:Nat}{ws ws':List Int}{fr fr':List Nat}:∀ {l:List (Nat×Nat)} {p q:Nat},Lay z ws fr p l q->(∀ o∈obs p l,ws'[adr z fr' o.1]?=some (hdW o.2.1 o.2.2))->Lay z ws' fr' p l q
 | [],p,q,h,_=>h
 | (r,d) :: l,p,q,h,k=>⟨h.1,h.2.1,k (p,r,d) (Wz ..),h.2.2.2.heads λo ho=>k o (Wm _ ho)⟩
theorem Lay.append{z:Nat}{ws:List Int}{fr:List Nat}:∀ {l m:List (Nat×Nat)} {p q r:Nat},Lay z ws fr p l q->Lay z ws fr q m r->Lay z ws fr p (l++m) r
 | [],m,p,q,r,h,k=>by cases h;exact k
 | (a,b) :: l,m,p,q,r,h,k=>⟨h.1,h.2.1,h.2.2.1,h.2.2.2.append k⟩
theorem lay_nob{z:Nat}{ws:List Int}{fr:List Nat}:∀ {M:List (Nat×Nat×Nat)} {p:Nat},(∀ o∈nob p M,o.2.2.1<=15/\o.2.2.2<=32/\ws[adr z fr o.2.1]?=some (hdW o.2.2.1 o.2.2.2))->Lay z ws fr p (M.map (·.2)) (p+szM M)
 | [],p,_=>rfl
 | (a,r,d) :: M,p,h=>by
  have h0:=h (a,p,r,d) (Wz ..)
  refine ⟨h0.1,h0.2.1,h0.2.2,?_⟩
  have:=lay_nob (M:=M) (p:=p+1+r+d) (ws:=ws) (fr:=fr) (z:=z) λo ho=>h o (Wm _ ho)
  rw [show p+szM ((a,r,d) :: M)=p+1+r+d+szM M from by show p+(1+r+d+szM M)=_;omega]
  exact this
theorem QdS{α:Type}(t:α):∀ (B:List (List α)) (n:Nat),n < B.length->(B.modify n λq=>q++[t]).flatten.Perm (B.flatten++[t])
 | [],n,h=>by simp at h
 | q :: B,0,_=>by
  show ((q++[t]) :: B).flatten.Perm _
  rw [Va,Va,WX,WX]
  exact YM _ List.perm_append_comm
 | q :: B,n+1,h=>by
  show (q :: B.modify n λq=>q++[t]).flatten.Perm _
  rw [Va,Va,WX]
  exact YM _ (QdS t B n (by simpa using h))
noncomputable def Xp(BL:List (List Itm))(C:List Itm):List (List Itm):=BL.map λq=>q.filter λx=>bP (x∉C)
noncomputable def QbT(T0 T x:Itm):Itm:=open Classical in if x=T0 then T else x
noncomputable def Zd(BL:List (List Itm))(C:List Itm)(T0 T:Itm):List (List Itm):=open Classical in
 if T0∈BL.flatten then (Xp BL C).map λq=>q.map (QbT T0 T)
 else if 0 < T.i.words then (Xp BL C).modify T0.i.belt.toNat λq=>q++[T] else Xp BL C
theorem Qeg{BL:List (List Itm)}{C:List Itm}{x:Itm}:x∈(Xp BL C).flatten<->x∈BL.flatten/\x∉C:=by
 unfold Xp
 rw [<- Yd,WI,ZI]
theorem XW(BL:List (List Itm))(C:List Itm):(Xp BL C).length=BL.length:=by unfold Xp;rw [Wb]
section
variable{h:Hp}{BL:List (List Itm)}{l:List Inc}{C K:List Itm}{T0 T:Itm}{M:List (Nat×Nat×Nat)}
theorem StX.tq(X:StX h BL l C K T0 T M):T.i.seq=T0.i.seq/\T.i.belt=T0.i.belt/\T.i.words=((T0.i.words.toNat+szM M:Nat):Int)/\0<=T0.i.words:=⟨X.R.inv.sq.1,X.R.inv.sq.2.1,X.R.inv.sq.2.2,X.ctx.t0.inc.wd.1⟩
theorem StX.b0(X:StX h BL l C K T0 T M):T0.i.belt.toNat < BL.length:=by
 have:=X.S.tb
 have:=X.H.bn
 omega
theorem StX.mem(X:StX h BL l C K T0 T M){x:Itm}:x∈(Zd BL C T0 T).flatten<->x∈K\/(x=T/\0 < T.i.words):=by
 have ht:=X.tq
 unfold Zd
 by_cases h0:T0∈BL.flatten
 ·rw [if_pos h0,<- U7,Wj]
  have hw:=X.S.tw.2 h0
  have hn:T0∉C:=X.notC (.inr rfl)
  constructor
  ·rintro ⟨y,hy,rfl⟩
   have:=Qeg.1 hy
   unfold QbT
   by_cases e:y=T0
   ·rw [if_pos e];exact .inr ⟨rfl,Oo⟩
   ·rw [if_neg e];exact .inl ((X.S.kin y).2 ⟨this.1,this.2,e⟩)
  ·rintro (hk | ⟨rfl,_⟩)
   ·have:=X.kb hk
    exact ⟨x,Qeg.2 ⟨this.1,this.2.1⟩,by unfold QbT;rw [if_neg this.2.2]⟩
   ·exact ⟨T0,Qeg.2 ⟨h0,hn⟩,by unfold QbT;rw [if_pos rfl]⟩
 ·rw [if_neg h0]
  have hb:x∈(Xp BL C).flatten<->x∈K:=by
   rw [Qeg,X.S.kin]
   exact ⟨λk=>⟨k.1,k.2,λe=>h0 (e▸k.1)⟩,λk=>⟨k.1,k.2.1⟩⟩
  by_cases hw:0 < T.i.words
  ·rw [if_pos hw,(QdS T _ _ (by rw [XW];exact X.b0)).mem_iff,Wk,Wl,hb]
   exact ⟨λk=>k.imp id λk=>⟨k,hw⟩,λk=>k.imp id λk=>k.1⟩
  ·rw [if_neg hw,hb]
   exact ⟨.inl,λk=>k.elim id λk=>absurd k.2 hw⟩
theorem StX.cseq(X:StX h BL l C K T0 T M){x:Itm}(hx:x∈BL.flatten):x.i.seq∈l.map Inc.seq<->x∈C:=by
 rw [<- X.S.ci,WS]
 constructor
 ·intro hm
  obtain ⟨y,hy,e⟩:=Wj.1 hm
  exact X.H.uniq (X.S.cin y hy) hx e▸hy
 ·intro hc
  exact WT (f:=Inc.seq∘Itm.i) hc
theorem StX.rem(X:StX h BL l C K T0 T M):remA h.belts l=(Xp BL C).map λq=>q.map Itm.i:=by
 rw [QaH,X.H.bl]
 unfold Xp
 rw [WS,WS]
 refine WU λq hq=>?_
 show (q.map Itm.i).filter _=(q.filter λx=>bP (x∉C)).map Itm.i
 rw [List.filter_map]
 refine congrArg _ (UA λx hx=>?_)
 have:=X.cseq (Vc.2 ⟨q,hq,hx⟩)
 show (!decide (x.i.seq∈l.map Inc.seq))=bP (x∉C)
 by_cases c:x∈C
 ·rw [bP_f (λk=>k c),decide_eq_true (this.2 c)];rfl
 ·rw [Qc3 c,decide_eq_false λk=>c (this.1 k)];rfl
theorem StX.belts(X:StX h BL l C K T0 T M):(Zn h l).belts=(Zd BL C T0 T).map (λq=>q.map Itm.i)/\(Zn h l).seq=(open Classical in if T0∈BL.flatten\/¬ 0 < T.i.words then h.seq else h.seq+1):=by
 have ht:=X.tq
 have eto:(Xf h l).1.to=T.i:=X.R.inv.to
 have hq:=X.q
 have hs0:=X.H.sq0
 show (stpB h l).1=_/\(stpB h l).2=_
 unfold stpB Zd
 rw [<- X.S.ti,eto,X.rem]
 by_cases h0:T0∈BL.flatten
 ·have hw:=X.S.tw.2 h0
  rw [if_pos hw,if_pos h0,if_pos (.inl h0)]
  refine ⟨?_,rfl⟩
  unfold repB
  rw [WS]
  apply VV
  intro n
  rw [WW,Wg,Wg]
  cases hb:(Xp BL C)[n]? with
  | none=>rfl
  | some q =>
   simp only [Wu,VN]
   congr 1
   have hqm:∀ x∈q,x∈BL.flatten/\x.i.belt=(n:Int):=λx hx=>by
    unfold Xp at hb
    rw [Wg] at hb
    cases hb2:BL[n]? with
    | none=>rw [hb2] at hb;cases hb
    | some p =>
     rw [hb2,Wu] at hb
     injection hb with hb
     rw [<- hb] at hx
     obtain ⟨hl,rfl⟩:=Wi.1 hb2
     have hxp:=(WI.1 hx).1
     exact ⟨Vc.2 ⟨_,Wd hl,hxp⟩,X.H.blt n hl x hxp⟩
   have hsw:∀ x∈q,(if x.i.seq=T.i.seq then T.i else x.i)=(QbT T0 T x).i:=λx hx=>by
    unfold QbT
    by_cases e:x=T0
    ·rw [if_pos e,if_pos (by rw [e,ht.1])]
    ·rw [if_neg e,if_neg]
     rw [ht.1]
     exact λk=>e (X.H.uniq (hqm x hx).1 h0 k)
   by_cases e:T.i.belt.toNat=n
   ·rw [if_pos e]
    show repQ T.i (q.map Itm.i)=(q.map (QbT T0 T)).map Itm.i
    unfold repQ
    rw [WS,WS]
    exact WU hsw
   ·rw [if_neg e]
    show q.map Itm.i=(q.map (QbT T0 T)).map Itm.i
    rw [WS]
    refine WU λx hx=>?_
    show x.i=(QbT T0 T x).i
    unfold QbT
    rw [if_neg]
    rintro rfl
    have:=(hqm x hx).2
    rw [ht.2.1,this] at e
    exact e rfl
 ·have hw:¬ 0 < T0.i.words:=λk=>h0 (X.S.tw.1 k)
  rw [if_neg hw,if_neg h0]
  by_cases hw2:0 < T.i.words
  ·rw [if_pos hw2,if_pos hw2,if_neg (by rintro (k | k);exact h0 k;exact k hw2)]
   refine ⟨?_,Qd Oo⟩
   unfold addB
   rw [ht.2.1]
   apply VV
   intro n
   rw [WW,Wg,Wg,WW]
   cases (Xp BL C)[n]? with
   | none=>rfl
   | some q =>
    simp only [Wu,VN]
    congr 1
    by_cases e:T0.i.belt.toNat=n
    ·rw [if_pos e,if_pos e,WF];rfl
    ·rw [if_neg e,if_neg e]
  ·rw [if_neg hw2,if_neg hw2,if_pos (.inr hw2)]
   exact ⟨rfl,rfl⟩
theorem StX.itmK(X:StX h BL l C K T0 T M){x:Itm}(hx:x∈K):JN (Zn h l).space x:=by
 have hX:=X.ctx.ks x hx
 have hxb:=X.kb hx
 have hi:IncC (Zn h l).space.fs x.i x.fr:=by
  rw [Qd2]
  exact clrA_inc X.ln (s:=ZZ h l) (X.R.inv.oth x (Wh _ hx)) λk=>hxb.2.1 ((X.cseq hxb.1).1 k)
 refine ⟨⟨hi,by rw [X.len3.1];exact hX.inc.wd,hX.inc.len⟩,?_⟩
 rw [X.z3]
 refine hX.lay.heads λo ho=>?_
 have b:=Itm.posOk X.ctx.ok hX (p:=o.1) (r:=o.2.1) (d:=o.2.2) ho
 have:=X.w_old (.inl hx) (p:=o.1) (r:=o.2.1) (d:=o.2.2) (k:=0) ho Oo (.inl rfl)
 rw [VI] at this
 exact this.trans b.2.2.2
theorem StX.tns(X:StX h BL l C K T0 T M):T.i.seq∉l.map Inc.seq:=λhm=>by
 rw [X.tq.1,<- X.S.ci,WS] at hm
 obtain ⟨y,hy,e⟩:=Wj.1 hm
 exact X.ctx.sqT y (We _ hy) e
theorem StX.incT(X:StX h BL l C K T0 T M):IncC (Zn h l).space.fs T.i T.fr:=by
 rw [Qd2]
 exact clrA_inc X.ln (s:=ZZ h l) X.R.inv.inc.toIncC X.tns
theorem StX.src(X:StX h BL l C K T0 T M){o:Nat×Nat×Nat×Nat}(ho:o∈nob T0.i.words.toNat M):∃ x∈C,∃ p,(p,o.2.2)∈obs 0 x.os/\o.1=adr (szS h.space) x.fr p:=X.R.inv.src _ (Qed M _ o ho)
theorem StX.itmT(X:StX h BL l C K T0 T M):JN (Zn h l).space T:=by
 have hX:=X.ctx.t0
 have ht:=X.tq
 have hT:=X.R.inv.inc
 refine ⟨⟨X.incT,by rw [X.len3.1,<- X.R.inv.wl];exact hT.wd,?_⟩,?_⟩
 ·have:=hT.len
  unfold clN at this ⊢
  rw [X.R.inv.z] at this
  exact this
 ·rw [X.z3,X.R.inv.os,ht.2.2.1,Wc]
  refine Lay.append (q:=T0.i.words.toNat) ?_ ?_
  ·refine hX.lay.heads λo ho=>?_
   have b:=Itm.posOk X.ctx.ok hX (p:=o.1) (r:=o.2.1) (d:=o.2.2) ho
   have hg:=hX.lay.get o ho
   have:=X.w_old (.inr rfl) (p:=o.1) (r:=o.2.1) (d:=o.2.2) (k:=0) ho Oo (.inl rfl)
   rw [VI] at this
   rw [X.tadr Oo]
   exact this.trans b.2.2.2
  ·refine lay_nob λo ho=>?_
   obtain ⟨x,hx,p,hp,e⟩:=X.src ho
   have b:=Itm.posOk X.ctx.ok (X.ctx.cs x hx) hp
   exact ⟨b.2.1,b.2.2.1,(X.w_new ho).1⟩
theorem StX.each(X:StX h BL l C K T0 T M):∀ x∈(Zd BL C T0 T).flatten,JN (Zn h l).space x:=λx hx=>by
 rcases X.mem.1 hx with k | ⟨rfl,_⟩
 ·exact X.itmK k
 ·exact X.itmT
theorem StX.bseqs(X:StX h BL l C K T0 T M):(Zd BL C T0 T).flatten.Pairwise λx y=>x.i.seq≠y.i.seq:=by
 have hb:(Xp BL C).flatten.Pairwise λx y=>x.i.seq≠y.i.seq:=by
  unfold Xp
  rw [<- Yd]
  exact X.H.sp.seqs.filter _
 unfold Zd
 by_cases h0:T0∈BL.flatten
 ·rw [if_pos h0,<- U7,Vh]
  have hsw:∀ x,(QbT T0 T x).i.seq=x.i.seq:=λx=>by
   unfold QbT
   by_cases e:x=T0
   ·rw [if_pos e,e,X.tq.1]
   ·rw [if_neg e]
  exact hb.imp λk=>by rw [hsw,hsw];exact k
 ·rw [if_neg h0]
  by_cases hw:0 < T.i.words
  ·rw [if_pos hw,(QdS T _ _ (by rw [XW];exact X.b0)).pairwise_iff (λk e=>k e.symm),WV]
   refine ⟨hb,UV _ _,λx hx y hy=>?_⟩
   rw [Wl.1 hy,X.tq.1]
   have:=Qeg.1 hx
   exact X.ctx.sqT x (Wh _ ((X.S.kin x).2 ⟨this.1,this.2,λe=>h0 (e▸this.1)⟩))
  ·rw [if_neg hw];exact hb
theorem StX.all(X:StX h BL l C K T0 T M):∀ k (hk:k < (Zn h l).space.fs.length),¬ (Zn h l).space.fs[k].ow = -1->∃ x∈(Zd BL C T0 T).flatten,k∈x.fr:=λk hk h0=>by
 have hk2:k < (ZZ h l).fs.length:=by rw [X.len2.2,<- X.len3.2];exact hk
 have hnc:¬ isC (ZZ h l).fs l k=true:=λhc=>by
  obtain ⟨k1,k2⟩:=JL X.ln hc
  apply h0
  have:(Zn h l).space.fs[k]=feF:=k2
  exact congrArg Fe.ow this
 obtain ⟨k1,k2⟩:=QaQ X.ln hk2 hnc
 have e:(Zn h l).space.fs[k]=(ZZ h l).fs[k]:=k2
 have h0:¬ (ZZ h l).fs[k].ow = -1:=λk3=>h0 ((congrArg Fe.ow e).trans k3)
 rcases X.R.inv.own k hk2 h0 with hT | ⟨x,hx,hkx⟩
 ·refine ⟨T,X.mem.2 (.inr ⟨rfl,?_⟩),hT⟩
  have hT2:=X.R.inv.inc
  apply Classical.byContradiction
  intro hw
  have:=hT2.nil X.R.inv.ok.shp (by have:=hT2.wd;omega)
  rw [this] at hT
  cases hT
 ·rcases Wk.1 hx with c | c
  ·exact absurd (X.isC2.2 ⟨x,c,hkx⟩) hnc
  ·exact ⟨x,X.mem.2 (.inl c),hkx⟩
theorem StX.sp(X:StX h BL l C K T0 T M):Qa7 (Zn h l).space (Zd BL C T0 T).flatten:=⟨X.ok3.1,X.ok3.2,X.each,X.bseqs,X.all⟩
end
section
variable{h:Hp}{BL:List (List Itm)}{l:List Inc}{C K:List Itm}{T0 T:Itm}{M:List (Nat×Nat×Nat)}
theorem StX.osT(X:StX h BL l C K T0 T M):obs 0 T.os=obs 0 T0.os++(nob T0.i.words.toNat M).map (·.2):=by
 rw [X.R.inv.os,obs_append T0.os (M.map (·.2)) 0 T0.i.words.toNat (szS h.space) h.space.ws T0.fr X.ctx.t0.lay,obs_map]
theorem StX.objOld(X:StX h BL l C K T0 T M){x:Itm}(hx:x∈K\/x=T0){p r d:Nat}(hp:(p,r,d)∈obs 0 x.os):∃ y∈(Zd BL C T0 T).flatten,(p,r,d)∈obs 0 y.os/\∀ k,k<=r+d->adr (szS h.space) y.fr (p+k)=adr (szS h.space) x.fr (p+k):=by
 rcases hx with hx | rfl
 ·exact ⟨x,X.mem.2 (.inl hx),hp,λk _=>rfl⟩
 ·have hxb:=(X.old (.inr rfl) hp (k:=0) Oo).1
  have hw:=X.S.tw.2 hxb
  have ht:=X.tq
  have hg:=X.ctx.t0.lay.get _ hp
  dsimp only at hg
  refine ⟨T,X.mem.2 (.inr ⟨rfl,Oo⟩),?_,λk hk=>X.tadr Oo⟩
  rw [X.osT]
  exact We _ hp
theorem StX.objNew(X:StX h BL l C K T0 T M){o:Nat×Nat×Nat×Nat}(ho:o∈nob T0.i.words.toNat M):T∈(Zd BL C T0 T).flatten/\o.2∈obs 0 T.os:=by
 have ht:=X.tq
 have hin:=Jg M _ o ho
 refine ⟨X.mem.2 (.inr ⟨rfl,Oo⟩),?_⟩
 rw [X.osT]
 exact Wh _ (WT ho)
theorem StX.cases(X:StX h BL l C K T0 T M){y:Itm}(hy:y∈(Zd BL C T0 T).flatten){p r d:Nat}(hp:(p,r,d)∈obs 0 y.os) :
  (∃ x,(x∈K\/x=T0)/\(p,r,d)∈obs 0 x.os/\∀ k,k<=r+d->adr (szS h.space) y.fr (p+k)=adr (szS h.space) x.fr (p+k))\/(y=T/\∃ o∈nob T0.i.words.toNat M,o.2=(p,r,d)):=by
 rcases X.mem.1 hy with k | ⟨rfl,_⟩
 ·exact .inl ⟨y,.inl k,hp,λk _=>rfl⟩
 ·rw [X.osT] at hp
  rcases Wk.1 hp with hp | hp
  ·have hg:=X.ctx.t0.lay.get _ hp
   dsimp only at hg
   exact .inl ⟨T0,.inr rfl,hp,λk hk=>X.tadr Oo⟩
  ·obtain ⟨o,ho,e⟩:=Wj.1 hp
   exact .inr ⟨rfl,o,ho,e⟩
theorem StX.mv(X:StX h BL l C K T0 T M){m:Mov}(hm:m∈(Xf h l).1.mv):∃ o∈nob T0.i.words.toNat M,m=⟨(o.1:Int),((adr (szS h.space) T.fr o.2.1:Nat):Int)⟩:=by
 rw [X.R.inv.mv] at hm
 obtain ⟨o,ho,rfl⟩:=Wj.1 hm
 exact ⟨o,ho,rfl⟩
theorem StX.winOf(X:StX h BL l C K T0 T M){w:Int}(hw:¬ QaY h.space (C.map Itm.i) w)(hr:RefW (szS h.space) BL.flatten w):w=0\/(1<=w/\∃ x,(x∈K\/x=T0)/\∃ p r d,(p,r,d)∈obs 0 x.os/\(w - 1).toNat=adr (szS h.space) x.fr p/\x∈BL.flatten):=by
 rcases hr with hr | ⟨h1,r,d,y,hy,p,hp,e⟩
 ·exact .inl hr
 ·have hY:=X.H.sp.each y hy
  have b:=Itm.posOk X.H.sp.ok hY hp
  have hlt:=Jt X.H.sp.ok.shp hY.inc.ch.lt (p:=p) Oo
  refine .inr ⟨h1,y,out_kt X.S hy λhc=>hw ⟨⟨Oo,Oo⟩,?_⟩,p,r,d,hp,e,hy⟩
  rw [Qen λx hx=>(X.H.sp.each x (X.S.cin x hx)).inc.toIncC]
  refine ⟨y,hc,?_⟩
  have:=(ZC X.H.sp.ok hY hp (k:=0) Oo (q:=w - 1) Oo e).1
  exact this
theorem StX.img(X:StX h BL l C K T0 T M){w v:Int}(hr:RefW (szS h.space) BL.flatten w)(hi:ImgP h.space C (Xf h l).1.mv w v):RefW (szS h.space) (Zd BL C T0 T).flatten v:=by
 rcases hi with ⟨hn,rfl⟩ | ⟨hw,m,hm,e1,e2⟩
 ·rcases X.winOf hn hr with k | ⟨h1,x,hx,p,r,d,hp,e,_⟩
  ·exact .inl k
  ·obtain ⟨y,hy,hp2,ea⟩:=X.objOld hx hp
   exact .inr ⟨h1,r,d,y,hy,p,hp2,by rw [e];exact (ea 0 Oo).symm⟩
 ·obtain ⟨o,ho,rfl⟩:=X.mv hm
  obtain ⟨h1,h2⟩:=X.objNew ho
  dsimp only at e2
  exact .inr ⟨Oo,o.2.2.1,o.2.2.2,T,h1,o.2.1,h2,Oo⟩
theorem StX.slot(X:StX h BL l C K T0 T M){q:Nat}(hq:JE (szS h.space) (Zd BL C T0 T).flatten q) :
  ∃ w,RefW (szS h.space) BL.flatten w/\ImgP h.space C (Xf h l).1.mv w (wAt (Zn h l).space (q:Int)):=by
 obtain ⟨y,hy,p,r,d,hp,k,k1,k2,rfl⟩:=hq
 rcases X.cases hy hp with ⟨x,hx,hp2,ea⟩ | ⟨rfl,o,ho,e⟩
 ·rw [ea k Oo]
  have hxb:=(X.old hx hp2 (k:=k) Oo).1
  exact ⟨_,X.H.refs _ ⟨x,hxb,p,r,d,hp2,k,k1,k2,rfl⟩,(X.r_old hx hp2 k1 k2).1⟩
 ·have e1:o.2.1=p:=by rw [e]
  have e2:o.2.2.1=r:=by rw [e]
  obtain ⟨x,hx,p',hp',ex⟩:=X.src ho
  have:=X.r_new ho (k:=k) k1 Oo
  rw [e1] at this
  refine ⟨_,?_,this⟩
  rw [ex,srcA_at X.ctx hx hp' (by show k<=o.2.2.1+o.2.2.2;omega)]
  exact X.H.refs _ ⟨x,X.S.cin x hx,p',o.2.2.1,o.2.2.2,hp',k,k1,Oo,rfl⟩
theorem StX.refs(X:StX h BL l C K T0 T M):∀ q,JE (szS (Zn h l).space) (Zd BL C T0 T).flatten q->RefW (szS (Zn h l).space) (Zd BL C T0 T).flatten (wAt (Zn h l).space (q:Int)):=λq hq=>by
 obtain ⟨w,h1,h2⟩:=X.slot hq
 exact X.img h1 h2
theorem StX.root(X:StX h BL l C K T0 T M){i:Nat}(hi:i∈Q7 h.roots):ImgP h.space C (Xf h l).1.mv (Qr h.roots i) (Qr (Zn h l).roots i):=by
 have h32:=X.H.rts.u
 have h32r:=X.H.rts.v
 have hil:i < h.roots.refs.length:=by
  have:=(Wi.1 (Zf.1 hi)).1
  omega
 have hnd:((Jj h.space h.roots l).map λ(i:Nat)=>(i:Int)).Pairwise λa b=>a.toNat≠b.toNat:=by
  rw [Vh]
  have:(Jj h.space h.roots l).Pairwise (· < ·):=by
   unfold Jj Q7
   exact (List.pairwise_lt_range.filter _).filter _
  exact this.imp λh=>by omega
 by_cases hm:i∈Jj h.space h.roots l
 ·obtain ⟨j,hj⟩:=W6.1 hm
  have hjl:=(Wi.1 hj).1
  have hlens:=stp_lens X.R
  have hwr:=wrtL_at ((Jj h.space h.roots l).map λ(i:Nat)=>(i:Int)) ((Xf h l).2.take (Jj h.space h.roots l).length) h.roots.refs hnd (by rw [Wb,Ws];omega) (λq hq=>by
   obtain ⟨a,ha,rfl⟩:=Wj.1 hq
   have:=(Wi.1 (Zf.1 (Qer ha).1)).1
   rw [Wc];omega) j (i:Int) ((Xf h l).2[j]' Oo) (by rw [Wg,hj];rfl) (by rw [W2,if_pos hjl,Wa Oo])
  rw [Wc] at hwr
  have e:Qr (Zn h l).roots i=(Xf h l).2[j]' Oo:=by
   unfold Qr
   show ((stpR h l)[i]?).getD 0=_
   unfold stpR
   rw [hwr];rfl
  rw [e]
  refine X.R.img j _ _ ?_ (Wa Oo)
  unfold stpW
  rw [WK (by rw [Wb];exact hjl),Wg,hj]
  rfl
 ·have e:Qr (Zn h l).roots i=Qr h.roots i:=by
   unfold Qr
   show ((stpR h l)[i]?).getD 0=_
   unfold stpR
   rw [QcN _ _ _ _ λq hq e=>?_]
   obtain ⟨a,ha,rfl⟩:=Wj.1 hq
   rw [Wc] at e
   exact hm (e▸ha)
  rw [e]
  refine .inl ⟨λhw=>hm ?_,rfl⟩
  unfold Jj
  rw [WI,ZI]
  rw [X.S.ci] at hw
  exact ⟨hi,hw⟩
theorem StX.roots(X:StX h BL l C K T0 T M):Qar (Zn h l).roots/\∀ i∈Q7 (Zn h l).roots,1<=Qr (Zn h l).roots i/\∃ r d,ObjZ (szS (Zn h l).space) (Zd BL C T0 T).flatten (Qr (Zn h l).roots i - 1).toNat r d:=by
 have hr:=X.H.rts
 refine ⟨⟨hr.u,(QaE _ _ _).trans hr.v,λi h1 h2 hf=>?_,λx hx=>?_⟩,λi hi=>?_⟩
 ·have h2':i < h.roots.refs.length:=by have:=hr.u;have:=hr.v;have:i < h.roots.used.length:=h1;omega
  have hne:=QcN ((Jj h.space h.roots l).map λ(i:Nat)=>(i:Int)) ((Xf h l).2.take (Jj h.space h.roots l).length) h.roots.refs i λq hq e=>by
   obtain ⟨a,ha,rfl⟩:=Wj.1 hq
   rw [Wc] at e
   subst e
   have:=Zf.1 (Qer ha).1
   rw [Wa (show a < h.roots.used.length from h1)] at this
   injection this with this
   exact absurd ((show h.roots.used[a]=false from hf).symm.trans this) Od
  have:=hr.z i h1 h2' hf
  rw [Wa h2'] at hne
  rw [this] at hne
  exact (Wi.1 hne).2
 ·exact wrtL_all _ _ _ hr.w (λv hv=>X.R.u v (Vy hv)) x hx
 ·have hi:i∈Q7 h.roots:=hi
  have hroot:=X.H.roots i hi
  have:=X.img (.inr hroot) (X.root hi)
  rcases this with k | k
  ·exfalso
   rcases X.root hi with ⟨_,e⟩ | ⟨_,m,hm,_,e⟩
   ·rw [e] at k;omega
   ·obtain ⟨o,ho,rfl⟩:=X.mv hm
    rw [e] at k
    dsimp only at k
    omega
  ·exact k
theorem StX.same(X:StX h BL l C K T0 T M){x:Itm}(hx:x∈K\/x=T0)(hxb:x∈BL.flatten){k:Nat}(hk:k∈x.fr) :
  ∃ (h0:k < h.space.fs.length) (h3:k < (Zn h l).space.fs.length),(Zn h l).space.fs[k].ow=h.space.fs[k].ow/\(Zn h l).space.fs[k].st=h.space.fs[k].st/\¬ h.space.fs[k].ow = -1:=by
 have h0i:=(X.H.sp.each x hxb).inc.toIncC
 have h0:=h0i.ch.lt k hk
 have h3:k < (Zn h l).space.fs.length:=by rw [X.len3.2];exact h0
 refine ⟨h0,h3,?_⟩
 have hsq:=h0i.sq
 rw [(h0i.ow k h0).2 hk,h0i.st k h0 hk]
 rcases hx with hx | rfl
 ·have h3i:=(X.itmK hx).inc.toIncC
  exact ⟨(h3i.ow k h3).2 hk,h3i.st k h3 hk,Oo⟩
 ·obtain ⟨m,e⟩:=X.tfr
  have hkT:k∈T.fr:=by rw [e];exact We _ hk
  have ht:=X.tq
  have h3i:=X.incT
  refine ⟨?_,?_,Oo⟩
  ·rw [(h3i.ow k h3).2 hkT,ht.1]
  ·rw [h3i.st k h3 hkT,ht.1,ht.2.1]
theorem StX.fields(X:StX h BL l C K T0 T M){o:Nat×Nat×Nat×Nat}(ho:o∈nob T0.i.words.toNat M) :
  (FldR (ZZ h l) ((adr (szS h.space) T.fr o.2.1:Nat):Int)).1=(List.range o.2.2.1).map λj=>((adr (szS h.space) T.fr (o.2.1+(j+1)):Nat):Int):=by
 obtain ⟨x,hx,p,hp,e⟩:=X.src ho
 have b:=Itm.posOk X.ctx.ok (X.ctx.cs x hx) hp
 have hroom:=(X.new ho (k:=o.2.2.1+o.2.2.2) Oo).2.2
 have hch:Chn (ZZ h l).fs T.fr:=X.R.inv.inc.ch
 have how:Own (ZZ h l).fs T.fr:=X.R.inv.inc.own
 have hhd:(ZZ h l).ws[adr (szS (ZZ h l)) T.fr o.2.1]?=some (hdW o.2.2.1 o.2.2.2):=by
  rw [X.z2,<- X.w3 (.inr rfl) Oo]
  exact (X.w_new ho).1
 have hlk:=(Qej X.ok2.1 hch how (p:=o.2.1) (r:=o.2.2.1) (d:=o.2.2.2) (by rw [X.z2];omega) b.2.1 b.2.2.1 hhd).1
 rw [X.z2] at hlk
 unfold FldR
 rw [hlk,if_pos rfl]
 dsimp only
 unfold fldL
 rw [Wc]
 refine WU λj hj=>?_
 rw [WC] at hj
 have:=go_k (k:=j+1) X.ok2.1.shp hch how (p:=o.2.1) (by rw [X.z2];omega)
 rw [X.z2] at this
 rw [show (1+(j:Int))=((j+1:Nat):Int) by omega,this]
theorem StX.movF(X:StX h BL l C K T0 T M){q:Int}:q∈movF (ZZ h l) (Xf h l).1.mv<->∃ o∈nob T0.i.words.toNat M,∃ k,1<=k/\k<=o.2.2.1/\q=((adr (szS h.space) T.fr (o.2.1+k):Nat):Int):=by
 unfold Go.Proofs.YthpnlnjdmlbnaaaGreatDoor.movF
 rw [U6]
 constructor
 ·rintro ⟨m,hm,hq⟩
  obtain ⟨o,ho,rfl⟩:=X.mv hm
  rw [X.fields ho] at hq
  obtain ⟨j,hj,rfl⟩:=Wj.1 hq
  rw [WC] at hj
  exact ⟨o,ho,j+1,Oo,Oo,rfl⟩
 ·rintro ⟨o,ho,k,k1,k2,rfl⟩
  refine ⟨⟨(o.1:Int),((adr (szS h.space) T.fr o.2.1:Nat):Int)⟩,by rw [X.R.inv.mv];exact Wj.2 ⟨o,ho,rfl⟩,?_⟩
  rw [X.fields ho]
  exact Wj.2 ⟨k - 1,by rw [WC];omega,by rw [show o.2.1+(k - 1+1)=o.2.1+k by omega]⟩
theorem StX.inS(X:StX h BL l C K T0 T M):Qy (Zn h l).sets/\Z3 (Zn h l).sets/\∀ f t q,InS (Zn h l).sets f t q <->
  (InS h.sets f t q/\¬ f∈(cfr (ZZ h l).fs l).map (λ(k:Nat)=>(k:Int))/\¬ t∈(cfr (ZZ h l).fs l).map (λ(k:Nat)=>(k:Int))) \/
   ((q∈Qbb h.space h.sets l\/q∈Go.Proofs.YthpnlnjdmlbnaaaGreatDoor.movF (ZZ h l) (Xf h l).1.mv)/\Qa8 (ZZ h l) q (wAt (ZZ h l) q)/\f=Jf (ZZ h l) q/\t=Jf (ZZ h l) (wAt (ZZ h l) q - 1)):=by
 have d1:=dropS_ok X.H.sok ((cfr (ZZ h l).fs l).map λ(k:Nat)=>(k:Int))
 have d2:Z3 (Qc0 h.sets ((cfr (ZZ h l).fs l).map λ(k:Nat)=>(k:Int))):=λx hx=>X.H.sin x (Qbh.1 hx).1
 obtain ⟨n1,n2,n3⟩:=Qcu X.ok2.1 (Qbb h.space h.sets l) d1 d2
 obtain ⟨m1,m2,m3⟩:=Qcu X.ok2.1 (Go.Proofs.YthpnlnjdmlbnaaaGreatDoor.movF (ZZ h l) (Xf h l).1.mv) n1 n2
 refine ⟨m1,m2,λf t q=>(m3 f t q).trans ?_⟩
 rw [n3,InS_drop]
 constructor
 ·rintro ((k | ⟨k,k2⟩) | ⟨k,k2⟩)
  ·exact .inl k
  ·exact .inr ⟨.inl k,k2⟩
  ·exact .inr ⟨.inr k,k2⟩
 ·rintro (k | ⟨k | k,k2⟩)
  ·exact .inl (.inl k)
  ·exact .inl (.inr ⟨k,k2⟩)
  ·exact .inr ⟨k,k2⟩
end
theorem lt_sub{a b c d:Int}(h:a < b)(e1:a=c)(e2:b=d):c < d:=by subst e1;subst e2;exact h
theorem fs_at{fs:List Fe}{i j:Nat}(e:i=j)(hj:j < fs.length)(h:¬ fs[j].ow = -1):∃ hi:i < fs.length,¬ fs[i].ow = -1:=by subst e;exact ⟨hj,h⟩
section
variable{h:Hp}{BL:List (List Itm)}{l:List Inc}{C K:List Itm}{T0 T:Itm}{M:List (Nat×Nat×Nat)}
theorem obj_owned{s:Sp}{L:List Itm}(hs:Qa7 s L){a r d:Nat}(ho:ObjZ (szS s) L a r d){q:Int}(hq:0<=q)(e:q.toNat=a):∃ hl:Jf s q < s.fs.length,¬ s.fs[Jf s q].ow = -1:=by
 obtain ⟨x,hx,p,hp,rfl⟩:=ho
 have hX:=hs.each x hx
 have:=(ZC hs.ok hX hp (k:=0) Oo hq e).1
 have hl:=hX.inc.ch.lt _ this
 exact ⟨hl,hX.inc.toIncC.own _ this hl⟩
theorem StX.cf(X:StX h BL l C K T0 T M){k:Nat}:((k:Nat):Int)∈(cfr (ZZ h l).fs l).map (λ(k:Nat)=>(k:Int))<->∃ c∈C,k∈c.fr:=by rw [mem_nat,QcV];exact X.isC2
theorem StX.ncf(X:StX h BL l C K T0 T M){x:Itm}(hx:x∈K\/x=T0)(hxb:x∈BL.flatten){k:Nat}(hk:k∈x.fr):¬ ((k:Nat):Int)∈(cfr (ZZ h l).fs l).map (λ(k:Nat)=>(k:Int)):=by
 rw [X.cf]
 rintro ⟨c,hc,hkc⟩
 have h1:=(X.H.sp.each x hxb).inc.toIncC
 have h2:=(X.H.sp.each c (X.S.cin c hc)).inc.toIncC
 exact h1.disj h2 (λe=>X.notC hx (X.H.uniq hxb (X.S.cin c hc) e▸hc)) k hk hkc
theorem StX.wAt2(X:StX h BL l C K T0 T M){q:Nat}(hq:JE (szS h.space) (Zd BL C T0 T).flatten q):wAt (ZZ h l) (q:Int)=wAt (Zn h l).space (q:Int):=by
 obtain ⟨y,hy,p,r,d,hp,k,k1,k2,rfl⟩:=hq
 have hY:=X.each y hy
 have b:=Itm.posOk X.ok3.1 hY hp
 rw [X.z3] at b
 have hyk:y∈K\/y=T:=(X.mem.1 hy).imp id λk=>k.1
 have e:=X.w3 hyk (p:=p+k) Oo
 have hlt:=Jt X.ok3.1.shp hY.inc.ch.lt (p:=p+k) (by rw [X.z3];omega)
 rw [X.z3] at hlt
 exact wAt_opt e.symm hlt
theorem StX.snd(X:StX h BL l C K T0 T M):∀ f t q,InS (Zn h l).sets f t q->JE (szS (Zn h l).space) (Zd BL C T0 T).flatten q.toNat/\f=(Jf (Zn h l).space q:Int)/\∃ (h2:t.toNat < (Zn h l).space.fs.length),0<=t/\¬ (Zn h l).space.fs[t.toNat].ow = -1:=λf t q hi=>by
 rcases (X.inS.2.2 f t q).1 hi with ⟨k1,k2,k3⟩ | ⟨k1,k2,k3,k4⟩
 ·
  obtain ⟨⟨x,hx,p,r,d,hp,k,j1,j2,e⟩,ef,ht,ht0,hto⟩:=X.H.snd f t q k1
  have hq0:0<=q:=by
   obtain ⟨y,hy,_,_,hyq⟩:=k1
   exact (X.H.sin y hy q hyq).1
  have hn:x∉C:=λhc=>k2 (by
   rw [ef]
   exact X.cf.2 ⟨x,hc,(ZC X.H.sp.ok (X.H.sp.each x hx) hp Oo hq0 e).1⟩)
  obtain ⟨y,hy,hp2,ea⟩:=X.objOld (out_kt X.S hx hn) hp
  refine ⟨⟨y,hy,p,r,d,hp2,k,j1,j2,by rw [e];exact (ea k Oo).symm⟩,ef,?_⟩
  obtain ⟨z,hz,hzt⟩:=X.H.sp.all t.toNat ht hto
  have hzn:z∉C:=λhc=>k3 (by
   have:=X.cf.2 ⟨z,hc,hzt⟩
   rwa [show ((t.toNat:Nat):Int)=t by omega] at this)
  obtain ⟨g0,g3,e1,_,e3⟩:=X.same (out_kt X.S hz hzn) hz hzt
  exact ⟨g3,ht0,by rw [e1];exact e3⟩
 ·have hslot:JE (szS h.space) (Zd BL C T0 T).flatten q.toNat/\0<=q:=by
   rcases k1 with k1 | k1
   ·obtain ⟨q0,_,x,hx,hn,p,r,d,hp,k,j1,j2,e⟩:=JJ X.H X.S k1
    obtain ⟨y,hy,hp2,ea⟩:=X.objOld (out_kt X.S hx hn) hp
    exact ⟨⟨y,hy,p,r,d,hp2,k,j1,j2,by rw [e];exact (ea k Oo).symm⟩,q0⟩
   ·obtain ⟨o,ho,k,j1,j2,rfl⟩:=X.movF.1 k1
    obtain ⟨g1,g2⟩:=X.objNew ho
    exact ⟨⟨T,g1,o.2.1,o.2.2.1,o.2.2.2,g2,k,j1,j2,by rw [Wc]⟩,Oo⟩
  have ew:=X.wAt2 hslot.1
  rw [show ((q.toNat:Nat):Int)=q by omega] at ew
  refine ⟨hslot.1,k3,?_⟩
  have hr:=X.refs q.toNat hslot.1
  rw [show ((q.toNat:Nat):Int)=q by omega,<- ew] at hr
  rcases hr with hr | ⟨hr1,r,d,ho⟩
  ·exact absurd hr k2.1.1
  ·obtain ⟨g1,g2⟩:=obj_owned X.sp ho (q:=wAt (ZZ h l) q - 1) Oo rfl
   obtain ⟨w1,w2⟩:=fs_at (show t.toNat=Jf (Zn h l).space (wAt (ZZ h l) q - 1) from by rw [k4,Wc];rfl) g1 g2
   exact ⟨w1,Oo,w2⟩
theorem StX.cmp(X:StX h BL l C K T0 T M):∀ q,JE (szS (Zn h l).space) (Zd BL C T0 T).flatten q->Qa8 (Zn h l).space (q:Int) (wAt (Zn h l).space (q:Int))->InS (Zn h l).sets (Jf (Zn h l).space (q:Int):Int) (Jf (Zn h l).space (wAt (Zn h l).space (q:Int) - 1):Int) (q:Int):=λq hq hneed=>by
 have hq:JE (szS h.space) (Zd BL C T0 T).flatten q:=hq
 have ew:=X.wAt2 hq
 have hneed2:Qa8 (ZZ h l) (q:Int) (wAt (ZZ h l) (q:Int)):=by
  rw [ew]
  obtain ⟨⟨a1,a2,a3,a4⟩,g1,g2,o1,o2,o3⟩:=hneed
  have hnc:∀ k (hk:k < (Zn h l).space.fs.length),¬ (Zn h l).space.fs[k].ow = -1->∃ hk2:k < (ZZ h l).fs.length,(Zn h l).space.fs[k].ow=(ZZ h l).fs[k].ow/\(Zn h l).space.fs[k].st=(ZZ h l).fs[k].st:=λk hk ho=>by
   have hk2:k < (ZZ h l).fs.length:=by rw [X.len2.2,<- X.len3.2];exact hk
   have hn:¬ isC (ZZ h l).fs l k=true:=λhc=>by
    obtain ⟨k1,k2⟩:=JL X.ln hc
    have:(Zn h l).space.fs[k]=feF:=k2
    exact ho (congrArg Fe.ow this)
   obtain ⟨k1,k2⟩:=QaQ X.ln hk2 hn
   have:(Zn h l).space.fs[k]=(ZZ h l).fs[k]:=k2
   exact ⟨hk2,congrArg Fe.ow this,congrArg Fe.st this⟩
  obtain ⟨p1,p2,p3⟩:=hnc _ g1 o1
  obtain ⟨q1,q2,q3⟩:=hnc _ g2 o2
  refine ⟨⟨a1,by rw [X.len2.1,<- X.len3.1];exact a2,a3,by rw [X.len2.1,<- X.len3.1];exact a4⟩,p1,q1,?_,?_,?_⟩
  ·exact λk=>o1 (p2.trans k)
  ·exact λk=>o2 (q2.trans k)
  ·exact lt_sub o3 q3 p3
 have fin:((q:Int)∈Qbb h.space h.sets l\/(q:Int)∈Go.Proofs.YthpnlnjdmlbnaaaGreatDoor.movF (ZZ h l) (Xf h l).1.mv)->InS (Zn h l).sets (Jf (Zn h l).space (q:Int):Int) (Jf (Zn h l).space (wAt (Zn h l).space (q:Int) - 1):Int) (q:Int):=λhm=>by
  refine (X.inS.2.2 _ _ _).2 (.inr ⟨hm,hneed2,rfl,?_⟩)
  rw [ew]
  rfl
 obtain ⟨y,hy,p,r,d,hp,k,k1,k2,rfl⟩:=hq
 rcases X.cases hy hp with ⟨x,hx,hp2,ea⟩ | ⟨rfl,o,ho,e⟩
 ·rw [ea k Oo] at hneed fin ⊢
  by_cases hm:((adr (szS h.space) x.fr (p+k):Nat):Int)∈Qbb h.space h.sets l
  ·exact fin (.inl hm)
  ·obtain ⟨hv,hnw⟩:=(X.r_old hx hp2 k1 k2).2 hm
   have hxb:=(X.old hx hp2 (k:=k) Oo).1
   have hslot0:JE (szS h.space) BL.flatten (adr (szS h.space) x.fr (p+k)):=⟨x,hxb,p,r,d,hp2,k,k1,k2,rfl⟩
   rw [hv] at hneed ⊢
   have hw0:=X.H.refs _ hslot0
   rcases X.winOf (by rw [X.S.ci];exact hnw) hw0 with k0 | ⟨hw1,z,hz,p',r',d',hp',ez,hzb⟩
   ·exact absurd k0 hneed.1.1
   ·obtain ⟨f1,f2⟩:=ZC X.H.sp.ok (X.H.sp.each x hxb) hp2 (k:=k) Oo (q:=((adr (szS h.space) x.fr (p+k):Nat):Int)) Oo Oo
    obtain ⟨f3,f4⟩:=ZC X.H.sp.ok (X.H.sp.each z hzb) hp' (k:=0) Oo (q:=wAt h.space ((adr (szS h.space) x.fr (p+k):Nat):Int) - 1) Oo ez
    obtain ⟨a1,a2,a3,a4,a5⟩:=X.same hx hxb f1
    obtain ⟨b1,b2,b3,b4,b5⟩:=X.same hz hzb f3
    obtain ⟨⟨c1,c2,c3,c4⟩,g1,g2,o1,o2,o3⟩:=hneed
    have hn0:Qa8 h.space ((adr (szS h.space) x.fr (p+k):Nat):Int) (wAt h.space ((adr (szS h.space) x.fr (p+k):Nat):Int)):=by
     refine ⟨⟨c1,by rw [<- X.len3.1];exact c2,c3,by rw [<- X.len3.1];exact c4⟩,a1,b1,a5,b5,?_⟩
     exact lt_sub o3 b4 a4
    have hc:=X.H.cmp _ hslot0 hn0
    exact (X.inS.2.2 _ _ _).2 (.inl ⟨hc,X.ncf hx hxb f1,X.ncf hz hzb f3⟩)
 ·have e1:o.2.1=p:=by rw [e]
  have e2:o.2.2.1=r:=by rw [e]
  refine fin (.inr (X.movF.2 ⟨o,ho,k,k1,Oo,by rw [e1]⟩))
theorem clN_words{s:Sp}(hs:XA s){i:Inc}{fr:List Nat}(h:Qch s i fr):fr.length=Qcc (szS s) i.words.toNat:=by
 have hw:=h.wd
 have hwl:=XT hs
 have:=h.len
 rw [QaR hs.shp.sh ⟨Oo,Oo⟩] at this
 omega
theorem StX.free(X:StX h BL l C K T0 T M):(Qj h.space.fs).length<=(Qj (Zn h l).space.fs).length:=by
 have hz:=X.z
 obtain ⟨m,m1,m2⟩:=X.R.inv.fr
 have e1:=congrArg List.length m1
 have e2:=congrArg List.length m2
 rw [Wn,Ws] at e1
 rw [WY] at e2
 have t1:=clN_words X.R.inv.ok X.R.inv.inc
 rw [X.R.inv.z,X.tq.2.2.1,Wc] at t1
 have t0:=clN_words X.ctx.ok X.ctx.t0.inc
 have c1:=QeE (z:=szS h.space) Oo T0.i.words.toNat (szM M)
 have c2:=ceilN_mono (z:=szS h.space) Oo (ev_sum X.ctx X.R.inv.src X.R.inv.nd)
 have c3:=ceil_sum X.ctx.ok X.ctx.cs
 have c4:sumF h.space C=((C.flatMap Itm.fr).length:Int):=by
  have:∀ (C:List Itm),(∀ x∈C,JN h.space x)->sumF h.space C=((C.flatMap Itm.fr).length:Int):=by
   intro C
   induction C with
   | nil=>intro _;rfl
   | cons x C ih =>
    intro hc
    have h1:=ih λy hy=>hc y (Wm _ hy)
    have h2:=(hc x (Wz ..)).inc.len
    unfold sumF at h1 ⊢
    rw [W3,UI,Yu,Wn,h1,<- h2]
    push_cast;rfl
  exact this C X.ctx.cs
 have hnd:(Qj (Xf h l).1.s.fs++C.flatMap Itm.fr).Nodup:=by
  rw [V7]
  refine ⟨(U5).filter _,?_,λa ha b hb=>?_⟩
  ·rw [W1,List.pairwise_flatMap]
   refine ⟨λx hx=>W1.1 (X.ctx.cs x hx).inc.nd,?_⟩
   have hn:=X.tgt.nodup
   rw [<- X.S.ci,WS,W1,Vh] at hn
   refine hn.imp_of_mem λ{a b} ha hb hab x hx y hy e=>?_
   subst e
   exact (X.ctx.cs a ha).inc.toIncC.disj (X.ctx.cs b hb).inc.toIncC hab x hx hy
  ·rintro rfl
   obtain ⟨c,hc,hac⟩:=U6.1 hb
   obtain ⟨k1,k2⟩:=Qbo ha
   exact (X.R.inv.oth c (We _ hc)).own a hac k1 k2
 have hsub:=sub_len _ (Qj (Zn h l).space.fs) hnd λa ha=>by
  have key:∃ hk:a < (Zn h l).space.fs.length,(Zn h l).space.fs[a].ow = -1:=by
   rcases Wk.1 ha with ha | ha
   ·obtain ⟨k1,k2⟩:=Qbo ha
    by_cases hc:isC (ZZ h l).fs l a=true
    ·obtain ⟨j1,j2⟩:=JL X.ln hc
     exact ⟨j1,congrArg Fe.ow (show (Zn h l).space.fs[a]=feF from j2)⟩
    ·obtain ⟨j1,j2⟩:=QaQ (s:=ZZ h l) X.ln k1 hc
     exact ⟨j1,(congrArg Fe.ow (show (Zn h l).space.fs[a]=(ZZ h l).fs[a] from j2)).trans k2⟩
   ·obtain ⟨c,hc,hac⟩:=U6.1 ha
    obtain ⟨j1,j2⟩:=JL X.ln (X.isC2.2 ⟨c,hc,hac⟩)
    exact ⟨j1,congrArg Fe.ow (show (Zn h l).space.fs[a]=feF from j2)⟩
  obtain ⟨k1,k2⟩:=key
  unfold Qj
  rw [WI,WC]
  exact ⟨k1,by rw [QaM k1,k2];rfl⟩
 rw [Wn] at hsub
 have hfl:(Qj (Xf h l).1.s.fs).length=(Qj h.space.fs).length - m:=e2
 omega
theorem StX.inv(X:StX h BL l C K T0 T M):QD (Zn h l) (Zd BL C T0 T):=by
 have ht:=X.tq
 obtain ⟨b1,b2⟩:=X.belts
 have hq:=X.q
 obtain ⟨r1,r2⟩:=X.roots
 obtain ⟨s1,s2,_⟩:=X.inS
 have hbn:(Zd BL C T0 T).length=BL.length:=by
  have:=congrArg List.length b1
  unfold Zd
  split
  ·rw [Wb,XW]
  ·split
   ·rw [US,XW]
   ·exact XW _ _
 have hsqK:∀ x∈K,x.i.seq < h.seq:=λx hx=>X.H.sq x (X.kb hx).1
 refine ⟨X.H.cfg,b1,hbn.trans X.H.bn,X.sp,λx hx=>?_,?_,?_,λx hx=>?_,?_,r1,r2,X.refs,s1,s2,X.snd,X.cmp,λhc=>?_⟩
 ·rcases X.mem.1 hx with k | ⟨rfl,k⟩
  ·exact X.H.pos x (X.kb k).1
  ·omega
 ·
  intro b hb x hx
  have hbb:b < BL.length:=by rw [<- hbn];exact hb
  have hbse:∀ (hb2:b < (Xp BL C).length),∀ y∈(Xp BL C)[b],y∈BL[b]:=λhb2 y hy=>by
   have:(Xp BL C)[b]?=some (BL[b].filter λx=>bP (x∉C)):=by unfold Xp;rw [Wg,Wa hbb];rfl
   rw [Wa hb2] at this
   injection this with this
   rw [this] at hy
   exact (WI.1 hy).1
  have hget:(Zd BL C T0 T)[b]?=some (Zd BL C T0 T)[b]:=Wa hb
  generalize hq':(Zd BL C T0 T)[b]=q at hx hget
  unfold Zd at hget
  have hb2:b < (Xp BL C).length:=by rw [XW];exact hbb
  split at hget
  ·rw [Wg,Wa hb2,Wu] at hget
   injection hget with hget
   rw [<- hget] at hx
   obtain ⟨y,hy,rfl⟩:=Wj.1 hx
   have:=X.H.blt b hbb y (hbse hb2 y hy)
   unfold QbT
   split
   ·rename_i e;rw [ht.2.1,<- e];exact this
   ·exact this
  ·split at hget
   ·rw [WW,Wa hb2] at hget
    simp only [VN,Wu] at hget
    injection hget with hget
    rw [<- hget] at hx
    split at hx
    ·rename_i e
     rcases Wk.1 hx with hx | hx
     ·exact X.H.blt b hbb x (hbse hb2 x hx)
     ·rw [Wl.1 hx,ht.2.1]
      have:=X.S.tb
      omega
    ·exact X.H.blt b hbb x (hbse hb2 x hx)
   ·rw [Wa hb2] at hget
    injection hget with hget
    rw [<- hget] at hx
    exact X.H.blt b hbb x (hbse hb2 x hx)
 ·
  intro q hqm
  have hbse:∀ p∈Xp BL C,p.Pairwise (λx y=>x.i.seq < y.i.seq)/\∀ y∈p,y∈BL.flatten/\y∉C:=λp hp=>by
   unfold Xp at hp
   obtain ⟨p',hp',rfl⟩:=Wj.1 hp
   refine ⟨(X.H.asc p' hp').filter _,λy hy=>?_⟩
   have:=WI.1 hy
   exact ⟨Vc.2 ⟨p',hp',this.1⟩,ZI.1 this.2⟩
  unfold Zd at hqm
  split at hqm
  ·obtain ⟨p,hp,rfl⟩:=Wj.1 hqm
   rw [Vh]
   have hsw:∀ x,(QbT T0 T x).i.seq=x.i.seq:=λx=>by
    unfold QbT
    split
    ·rename_i e;rw [e,ht.1]
    ·rfl
   exact (hbse p hp).1.imp λk=>by rw [hsw,hsw];exact k
  ·rename_i h0
   split at hqm
   ·obtain ⟨n,hn⟩:=W6.1 hqm
    rw [WW] at hn
    cases hb:(Xp BL C)[n]? with
    | none=>rw [hb] at hn;cases hn
    | some p =>
     rw [hb] at hn
     simp only [VN,Wu] at hn
     injection hn with hn
     have hp:=hbse p (Wp hb)
     rw [<- hn]
     split
     ·rw [WV]
      refine ⟨hp.1,UV _ _,λx hx y hy=>?_⟩
      rw [Wl.1 hy,ht.1]
      rcases X.S.tin with k | ⟨b,e⟩
      ·exact absurd k.1 h0
      ·rw [e];exact X.H.sq x (hp.2 x hx).1
     ·exact hp.1
   ·exact (hbse q hqm).1
 ·rw [b2]
  rcases X.mem.1 hx with k | ⟨rfl,hw⟩
  ·have:=hsqK x k
   split <;> omega
  ·rw [ht.1]
   by_cases h0:T0∈BL.flatten
   ·rw [if_pos (.inl h0)];exact X.H.sq T0 h0
   ·rw [if_neg (by rintro (k | k);exact h0 k;exact k hw)]
    rcases X.S.tin with k | ⟨b,e⟩
    ·exact absurd k.1 h0
    ·rw [e];show h.seq < h.seq+1;omega
 ·rw [b2]
  have:=X.H.sq0
  split <;> omega
 ·have h1:=X.H.resv hc
  have h2:=X.free
  have h3:=X.len3.2
  omega
end
theorem copy3_eq(h:Hp):Xr h=(Qw h).map λr=>(r,h.space.ws,h.space.fs):=by
 unfold Xr Qw
 simp only [map_ite',Uk,Function.comp_def,Wu,Option.map_none]
theorem do3_eq(h:Hp)(l:List Inc):Jw h l=(Jm h l).map λr=>(r.1,r.2.1,r.2.2,h.space.ws,h.space.fs):=by
 unfold Jw Jm
 simp only [copy3_eq,UL,Uk,Function.comp_def,map_ite',Wu,Option.map_none,if_true]
theorem rnd3_eq(h:Hp)(n:Int):Zu h n=Zh h n:=by
 unfold Zu Zh
 simp only [do3_eq,UL,Function.comp_def,if_true]
theorem full2_eq(h:Hp):ZP h=Z5 h:=by
 unfold ZP Z5
 rw [rnd3_eq]
theorem for2_eq(h:Hp)(n:Int):Zi h n=QaW h n:=by
 unfold Zi QaW
 rw [rnd3_eq]
def usdF(s:Sp):Int:=(s.fs.length:Int) - (Qj s.fs).length
def GrnP(c:Cfg)(s:Sp)(B:List (List Inc))(i:Inc)(n:Int):Prop :=
 clN s (i.words+n) - clN s i.words=0\/(usdF s+(clN s (i.words+n) - clN s i.words)<=s.fs.length/\(CplP c->2 * (usdF s+(clN s (i.words+n) - clN s i.words))<=s.fs.length) /\
  (¬ CplP c->max (largF s B.flatten) (clN s i.words+(clN s (i.words+n) - clN s i.words))<=s.fs.length - (usdF s+(clN s (i.words+n) - clN s i.words))))
theorem larg_rng{s:Sp}(hs:Qcg s.sh):∀ (l:List Inc) (n:Int),0<=n/\n<=1099511627776->0<=l.foldl (λ(n:Int) x=>max n (clN s x.words)) n/\l.foldl (λ(n:Int) x=>max n (clN s x.words)) n<=1099511627776
 | [],n,h=>h
 | x :: l,n,h=>by
  rw [VP]
  have:=Qca hs x.words
  exact larg_rng hs l _ Oo
theorem grants_c{c:Cfg}(hc:QcM c){s:Sp}(hs:Qbs s){B:List (List Inc)}(hB:BSz B)(hw:WdIn B){i:Inc}(hi:0<=i.words/\i.words<=16384){n:Int}(hn:1<=n/\n<=1000):Xs c s B i n=some (bP (GrnP c s B i n)):=by
 have h64:=hs.hi
 have c1:=Qca hs.sh (i.words+n)
 have c2:=Qca hs.sh i.words
 have hfl:=Qev s.fs
 refine Gd.eq ?_
 unfold Xs
 refine .call (extra_c hs.sh (by unfold I64;omega) (by unfold I64;omega)) ?_
 refine .ite (λh=>.t (.inl h)) λh0=>?_
 refine .call (used_c Oo) ?_
 have hu:0<=usdF s/\usdF s<=64:=by unfold usdF;omega
 show Gd _ (if (s.fs.length:Int) < w64 (usdF s+_) then _ else _)
 rw [Qd (n:=usdF s+(clN s (i.words+n) - clN s i.words)) Oo]
 refine .ite (λh=>.f λk=>?_) λh1=>?_
 ·rcases k with k | k
  ·exact h0 k
  ·omega
 refine .call (QbN hc) ?_
 refine .ite (λh=>?_) λh=>?_
 ·have h:=ZI.1 h
  refine .b (p:=GrnP c s B i n) ?_
  rw [show (w64 (2 * w64 ((s.fs.length:Int) - (Qj s.fs).length+(clN s (i.words+n) - clN s i.words))):Int)=2 * (usdF s+(clN s (i.words+n) - clN s i.words)) from by
   rw [show (s.fs.length:Int) - (Qj s.fs).length=usdF s from rfl,Qd (n:=usdF s+(clN s (i.words+n) - clN s i.words)) Oo,Qd Oo],decide_eq_true_iff]
  exact ⟨λk=>.inr ⟨Oo,λ_=>k,λq=>absurd h q⟩,λk=>k.elim (λk=>absurd k h0) λk=>k.2.1 h⟩
 ·have h:¬ CplP c:=λk=>h (Qc3 k)
  have hl:=larg_rng hs.sh B.flatten 0 Oo
  refine .call (largest_c hs.sh hB hw) (.call (Qaq hs.sh (by unfold I64;omega)) (.b (p:=GrnP c s B i n) ?_))
  rw [show (w64 ((s.fs.length:Int) - w64 ((s.fs.length:Int) - (Qj s.fs).length+(clN s (i.words+n) - clN s i.words))):Int)=s.fs.length - (usdF s+(clN s (i.words+n) - clN s i.words)) from by
   rw [show (s.fs.length:Int) - (Qj s.fs).length=usdF s from rfl,Qd (n:=usdF s+(clN s (i.words+n) - clN s i.words)) Oo,Qd Oo],Qd (n:=clN s i.words+(clN s (i.words+n) - clN s i.words)) Oo,decide_eq_true_iff]
  exact ⟨λk=>.inr ⟨Oo,λq=>absurd q h,λ_=>k⟩,λk=>k.elim (λk=>absurd k h0) λk=>k.2.2 h⟩
noncomputable def candR(h:Hp):Option (Int×Inc) :=
 let nw:Option (Int×Inc):=if ((h.config.rules[0]?).map Rul.limit).getD 0=0\/((((h.belts[0]?).getD []).length:Nat):Int) < ((h.config.rules[0]?).map Rul.limit).getD 0 then some (2,⟨h.seq,0,-1,-1,0⟩) else none
 match yngR h.belts 0 with
 | none=>nw
 | some y=>if capV h.config 0 h.space.fs.length=0\/y.words < w64 (capV h.config 0 h.space.fs.length * (szS h.space:Int)) then some (1,y) else nw
noncomputable def ZW(h:Hp)(n:Int):Int×Inc:=open Classical in
 match candR h with
 | none=>(3,inc0)
 | some (k,i)=>if GrnP h.config h.space h.belts i n then (k,i) else (3,inc0)
section
variable{h:Hp}{BL:List (List Itm)}
theorem QD.b0(H:QD h BL):0 < h.belts.length/\0 < h.config.rules.length:=by
 have:=H.cfg.len
 have:=H.bn
 rw [H.bl,Wb]
 omega
theorem candR_in(H:QD h BL){k:Int}{i:Inc}(hc:candR h=some (k,i)):(k=1/\yngR h.belts 0=some i/\0<=i.words/\i.words<=16384)\/(k=2/\i=⟨h.seq,0,-1,-1,0⟩):=by
 unfold candR at hc
 dsimp only at hc
 have hnew:∀ {p:Prop} [Decidable p],(if p then some ((2:Int),(⟨h.seq,0,-1,-1,0⟩:Inc)) else none)=some (k,i)->k=2/\i=⟨h.seq,0,-1,-1,0⟩:=λ{p} _ e=>by
  split at e
  ·injection e with e;injection e with e1 e2;exact ⟨e1.symm,e2.symm⟩
  ·cases e
 cases hy:yngR h.belts 0 with
 | none=>rw [hy] at hc;exact .inr (hnew hc)
 | some y =>
  rw [hy] at hc
  dsimp only at hc
  split at hc
  ·injection hc with hc
   injection hc with e1 e2
   subst e1;subst e2
   obtain ⟨x,hx,e,_⟩:=H.yng hy
   have:=(H.sp.each x hx).inc.wd
   have:=XT H.sp.ok
   rw [<- e]
   exact .inl ⟨rfl,rfl,Oo,Oo⟩
  ·exact .inr (hnew hc)
theorem plan_c(H:QD h BL){n:Int}(hn:1<=n/\n<=1000):QA h.config h.space h.belts h.seq n=some (ZW h n):=by
 obtain ⟨hb0,hr0⟩:=H.b0
 have hl:=H.bsz.2 _ (Wd hb0)
 have h64:=H.sp.ok.shp.hi
 have h2:=H.sp.ok.shp.lo
 refine Gd.eq ?_
 unfold QA
 refine .call (cap_c H.cfg ⟨Oo,Oo⟩ ⟨Oo,Oo⟩) (.call (QbF H.bsz 0) ?_)
 have er:((h.config.rules[0]?).map Rul.limit).getD 0=h.config.rules[0].limit:=by rw [Wa hr0];rfl
 have eb:(((h.belts[0]?).getD []).length:Nat)=h.belts[0].length:=by rw [Wa hb0];rfl
 have hnw:Gd (λz:(Int×Inc) ⊕ (Int×Inc)=>(∃ p,z = .inl p/\(if ((h.config.rules[0]?).map Rul.limit).getD 0=0\/((((h.belts[0]?).getD []).length:Nat):Int) < ((h.config.rules[0]?).map Rul.limit).getD 0 then some ((2:Int),(⟨h.seq,0,-1,-1,0⟩:Inc)) else none)=some p)\/(z = .inr (3,inc0)/\(if ((h.config.rules[0]?).map Rul.limit).getD 0=0\/((((h.belts[0]?).getD []).length:Nat):Int) < ((h.config.rules[0]?).map Rul.limit).getD 0 then some ((2:Int),(⟨h.seq,0,-1,-1,0⟩:Inc)) else none)=none))
   ((at_ h.config.rules 0).bind λv8=>if v8.limit=0 then (some (.inl ((2,Inc.mk h.seq 0 (-1) (-1) 0)))) else (at_ h.belts 0).bind λv10=>if v8.limit<=(v10.length:Int) then (some (.inr ((3,Inc.mk 0 0 0 0 0)))) else some (.inl ((2,Inc.mk h.seq 0 (-1) (-1) 0)))):=by
  rw [er,eb]
  refine .at0 hr0 (.ite (λk=>.some (.inl ⟨_,rfl,if_pos (.inl k)⟩)) λk=>.at0 hb0 (.ite (λk2=>.some (.inr ⟨rfl,if_neg Oo⟩)) λk2=>.some (.inl ⟨_,rfl,if_pos (.inr Oo)⟩)))
 refine Gd.bndR (P:=λz=>(∃ p,z = .inl p/\candR h=some p)\/(z = .inr (3,inc0)/\candR h=none)) ?_ (λp hP=>?_) (λr hP=>?_)
 ·unfold candR
  dsimp only
  cases hy:yngR h.belts 0 with
  | none=>exact .neg (by simp [optI]) hnw
  | some y =>
   refine .pos rfl (.call (open_c H.sp.ok.shp.sh _ _) ?_)
   dsimp only [optI]
   refine .ite (λho=>.some (.inl ⟨_,rfl,if_pos ?_⟩)) λho=>?_
   ·rw [VB,decide_eq_true_iff] at ho
    exact ho.imp id λq=>of_decide_eq_true q
   ·rw [if_neg (λk=>ho (by rw [VB,decide_eq_true_iff];exact k.imp id λq=>decide_eq_true q))]
    exact hnw
 ·rcases hP with ⟨q,hq,hc⟩ | ⟨hq,_⟩
  ·injection hq with hq
   subst hq
   obtain ⟨k,i⟩:=p
   unfold ZW
   rw [hc]
   dsimp only
   have hiw:0<=i.words/\i.words<=16384:=by
    rcases candR_in H hc with k | ⟨_,k⟩
    ·exact k.2.2
    ·rw [k];show (0:Int)<=0/\(0:Int)<=16384;omega
   refine .call (grants_c H.cfg H.sp.ok.shp H.bsz H.wd hiw hn) ?_
   refine .ite (λhg=>.some (by rw [if_pos (ZI.1 hg)])) λhg=>.some (by rw [if_neg λq=>hg (Qc3 q)])
  ·cases hq
 ·rcases hP with ⟨q,hq,_⟩ | ⟨hq,hc⟩
  ·cases hq
  ·injection hq with hq
   rw [hq]
   unfold ZW
   rw [hc]
theorem wants_c(H:QD h BL){n:Int}(hn:1<=n/\n<=1000):Zg h n=some (decide ((ZW h n).1=3)):=by
 unfold Zg
 rw [plan_c H hn]
 rfl
def ovrL(h:Hp):List Nat:=(List.range h.belts.length).filter λb=>match h.config.rules[b]?,h.belts[b]? with
 | some r,some q=>decide (¬ r.limit=0/\r.limit < (q.length:Int))
 | _,_=>false
theorem over_c(H:QD h BL):XM h.config h.belts=some ((ovrL h).map λ(b:Nat)=>(b:Int)):=by
 have hl:=H.cfg.len
 have hbn:h.belts.length=h.config.rules.length:=by rw [H.bl,Wb,H.bn]
 refine Gd.eq ?_
 unfold XM
 refine .call (check_c H.cfg) (.pos rfl (.pos Oo ?_))
 refine Gd.bind (P:=λb=>b=(ovrL h).map λ(b:Nat)=>(b:Int)) ?_ λb hb=>.some hb
 refine Gd.for h.belts.length (λ(t:List Int) i=>(t,i)) (λi t=>t.length<=i/\t=((List.range i).filter λb=>match h.config.rules[b]?,h.belts[b]? with
  | some r,some q=>decide (¬ r.limit=0/\r.limit < (q.length:Int))
  | _,_=>false).map λ(b:Nat)=>(b:Int)) [] rfl (λ_ _=>rfl) Oo ⟨Os,rfl⟩ (λi hi t ht=>?_) (λt ht=>ht.2)
 have hr:i < h.config.rules.length:=by omega
 have ht1:=ht.1
 rw [VX,Vj,WF,<- ht.2]
 refine .atN hi (.atN hr ?_)
 refine .ite (λk=>.some (.inl ⟨t,rfl,Oo,?_⟩)) λk=>.ite (λk2=>.pos (XD (l:=t) Oo Oo) (.some (.inl ⟨t++[(i:Int)],rfl,by rw [Wn,WE];omega,?_⟩))) λk2=>.some (.inl ⟨t,rfl,Oo,?_⟩)
 ·simp [Wa hi,Wa hr,k]
 ·simp [Wa hi,Wa hr,k,k2]
 ·have:¬ h.config.rules[i].limit < (h.belts[i].length:Int):=by omega
  simp [Wa hi,Wa hr,k,this]
end
def advK(B:List (List Inc))(last:Int):Nat->Cur->Cur
 | 0,k=>k
 | n+1,k=>if k.belt < last/\((B[k.belt.toNat]?).getD []).length=0 then advK B last n ⟨k.belt+1,false,0⟩ else k
def begK(B:List (List Inc))(last:Int)(k:Cur):Cur:=if k.belt=last/\¬ k.begun=true then ⟨k.belt,true,match yngR B last with | none=>-1 | some y=>y.seq⟩ else k
def Qcd(B:List (List Inc))(last:Int)(k:Cur):List Inc:=((B[k.belt.toNat]?).getD []).filter λi=>decide (k.belt < last\/i.seq<=k.last)
def takF(s:Sp)(batch:Int):Int->Nat->List Inc->List Inc
 | free,n,[]=>[]
 | free,n,i :: l=>if free - clN s i.words < 0\/(¬ batch=0/\(n:Int)=batch) then [] else i :: takF s batch (free - clN s i.words) (n+1) l
def QbO(h:Hp)(k:Cur):List Inc×Cur×Bool :=
 let last:Int:=(h.belts.length:Int) - 1
 let k1:=begK h.belts last (advK h.belts last 4 k)
 let c:=Qcd h.belts last k1
 if c.length=0 then ([],k1,true) else (takF h.space (((h.config.rules[k1.belt.toNat]?).map Rul.batch).getD 0) (Qj h.space.fs).length 0 c,k1,false)
theorem advK_rng(B:List (List Inc))(last:Int):∀ (n:Nat) (k:Cur),k.belt<=last->k.belt<=(advK B last n k).belt/\(advK B last n k).belt<=last
 | 0,k,h=>⟨Vk _,h⟩
 | n+1,k,h=>by
  unfold advK
  split
  ·rename_i hc
   have:=advK_rng B last n ⟨k.belt+1,false,0⟩ (by dsimp only;omega)
   dsimp only at this
   omega
  ·exact ⟨Vk _,h⟩
theorem takF_sum(s:Sp)(hs:Qcg s.sh)(batch:Int):∀ (l:List Inc) (free:Int) (n:Nat),0<=free->sumI s (takF s batch free n l)<=free
 | [],free,n,h=>h
 | i :: l,free,n,h=>by
  unfold takF
  split
  ·exact h
  ·rename_i hc
   have hc1:¬ free - clN s i.words < 0:=λk=>hc (.inl k)
   have:=takF_sum s hs batch l (free - clN s i.words) (n+1) Oo
   have e:∀ (l:List Inc) (a:Int),l.foldl (λ(n:Int) x=>n+clN s x.words) a=a+l.foldl (λ(n:Int) x=>n+clN s x.words) 0:=by
    intro l
    induction l with
    | nil=>intro a;simp
    | cons x l ih=>intro a;rw [VP,VP,ih (a+clN s x.words),ih (0+clN s x.words)];omega
   unfold sumI at this ⊢
   rw [VP,e]
   omega
theorem takF_pre(s:Sp)(batch:Int):∀ (l:List Inc) (free:Int) (n:Nat),∃ m,takF s batch free n l=l.take m
 | [],free,n=>⟨0,rfl⟩
 | i :: l,free,n=>by
  unfold takF
  split
  ·exact ⟨0,rfl⟩
  ·obtain ⟨m,e⟩:=takF_pre s batch l (free - clN s i.words) (n+1)
   exact ⟨m+1,by rw [e];rfl⟩
section
variable{h:Hp}{BL:List (List Itm)}
set_option maxHeartbeats 1000000 in
theorem choose_c(H:QD h BL){k:Cur}(hk:0<=k.belt/\k.belt < h.belts.length):ZR h.config h.space h.belts k=some (QbO h k):=by
 have hB:=H.bsz
 have hl:=H.cfg.len
 have h64:=H.sp.ok.shp.hi
 have hbn:h.belts.length=h.config.rules.length:=by rw [H.bl,Wb,H.bn]
 have hfl:=Qev h.space.fs
 have el:w64 ((h.belts.length:Int) - 1)=(h.belts.length:Int) - 1:=Qd Oo
 have hget:∀ b:Int,0<=b->b < h.belts.length->∃ hb:b.toNat < h.belts.length,(h.belts[b.toNat]?).getD []=h.belts[b.toNat]/\h.belts[b.toNat].length<=10000:=λb h0 h1=>by
  have hb:b.toNat < h.belts.length:=by omega
  exact ⟨hb,by rw [Wa hb];rfl,hB.2 _ (Wd hb)⟩
 refine Gd.eq ?_
 unfold ZR QbO
 dsimp only
 rw [el]
 generalize hlast:(h.belts.length:Int) - 1=last
 have hr0:=advK_rng h.belts last 4 k Oo
 refine Gd.bind (P:=λb=>b=advK h.belts last 4 k) ?_ λb hb=>?_
 ·refine Gd.loop (λx:Cur=>∃ n,advK h.belts last 4 k=advK h.belts last n x/\0<=x.belt/\x.belt<=last/\last < x.belt+n) _ (λx=>(last - x.belt).toNat) ⟨4,rfl,Oo,Oo,Oo⟩ ?_
  rintro x ⟨n,hx,x0,x1,x2⟩
  refine .ite (λhlt=>?_) λhlt=>.out ?_
  ·obtain ⟨hb,e1,e2⟩:=hget x.belt x0 Oo
   refine .at x0 hb ?_
   obtain ⟨m,rfl⟩:∃ m,n=m+1:=⟨n - 1,Oo⟩
   refine .ite (λhe=>?_) λhe=>.out ?_
   ·have e3:w64 (x.belt+1)=x.belt+1:=Qd Oo
    rw [e3]
    refine .go ⟨m,?_,by dsimp only;omega,by dsimp only;omega,by dsimp only;omega⟩ (by dsimp only;omega)
    rw [hx]
    conv=>lhs;unfold advK
    rw [if_pos ⟨hlt,by rw [e1];omega⟩]
   ·rw [hx]
    conv=>rhs;unfold advK
    rw [if_neg]
    rintro ⟨_,k2⟩
    rw [e1] at k2
    exact he Oo
  ·rw [hx]
   cases n with
   | zero=>rfl
   | succ m =>
    conv=>rhs;unfold advK
    rw [if_neg λk=>hlt k.1]
 subst hb
 generalize advK h.belts last 4 k=k0 at hr0 ⊢
 refine Gd.bind (P:=λb=>b=begK h.belts last k0) ?_ λb hb=>?_
 ·unfold begK
  refine .ite (λh1=>?_) λh1=>.some (by rw [if_neg λk=>h1 k.1])
  refine .ite (λh2=>.some (by rw [if_neg λk=>k.2 h2])) λh2=>?_
  rw [if_pos ⟨h1,h2⟩]
  refine .call (QbF hB last) ?_
  cases yngR h.belts last with
  | none=>exact .neg (by simp [optI]) (.some rfl)
  | some y=>exact .pos rfl (.some rfl)
 subst hb
 have hbb:(begK h.belts last k0).belt=k0.belt:=by unfold begK;split <;> rfl
 have hr1:k.belt<=(begK h.belts last k0).belt/\(begK h.belts last k0).belt<=last:=by rw [hbb];exact hr0
 generalize begK h.belts last k0=k1 at hr1 ⊢
 obtain ⟨hb,e1,e2⟩:=hget k1.belt Oo Oo
 refine Gd.bind (P:=λb=>b=Qcd h.belts last k1) ?_ λb hb2=>?_
 ·refine .at Oo hb ?_
  unfold Qcd
  rw [e1]
  refine Gd.for h.belts[k1.belt.toNat].length (λ(t:List Inc) i=>(t,i)) (λi t=>t.length<=i/\t=(h.belts[k1.belt.toNat].take i).filter λi=>decide (k1.belt < last\/i.seq<=k1.last)) [] rfl (λ_ _=>rfl) Oo ⟨Os,rfl⟩ (λi hi t ht=>?_) (λt ht=>by have:=ht.2;rw [WH] at this;exact this)
  have ht1:=ht.1
  rw [QF hi,Vj,<- ht.2]
  refine .atN hi ?_
  refine .ite (λh1=>.pos (XD (l:=t) Oo Oo) (.some (.inl ⟨t++[h.belts[k1.belt.toNat][i]],rfl,by rw [Wn,WE];omega,?_⟩))) λh1=>.ite (λh2=>.pos (XD (l:=t) Oo Oo) (.some (.inl ⟨t++[h.belts[k1.belt.toNat][i]],rfl,by rw [Wn,WE];omega,?_⟩))) λh2=>.some (.inl ⟨t,rfl,Oo,?_⟩)
  ·simp [h1]
  ·have h2:h.belts[k1.belt.toNat][i].seq<=k1.last:=h2
   simp [h2]
  ·have h2:¬ h.belts[k1.belt.toNat][i].seq<=k1.last:=h2
   simp [h1,h2]
 subst hb2
 have hcl:(Qcd h.belts last k1).length<=10000:=by
  unfold Qcd
  rw [e1]
  have:=WN (λi:Inc=>decide (k1.belt < last\/i.seq<=k1.last)) h.belts[k1.belt.toNat]
  omega
 have hcm:∀ i∈Qcd h.belts last k1,0<=i.words/\i.words<=16384:=λi hi=>by
  unfold Qcd at hi
  rw [e1] at hi
  exact H.wd _ (Wd hb) i (WI.1 hi).1
 generalize Qcd h.belts last k1=c at hcl hcm ⊢
 refine .ite (λh0=>.some (by rw [if_pos (show c.length=0 by omega)])) λh0=>?_
 rw [if_neg (show ¬ c.length=0 by omega)]
 refine .call (free_ok h.space Oo) ?_
 have hrb:k1.belt.toNat < h.config.rules.length:=by omega
 refine .at Oo hrb ?_
 rw [Wa hrb,Wu,Wy,Wb]
 generalize h.config.rules[k1.belt.toNat].batch=bt
 refine Gd.bind (P:=λb=>b=takF h.space bt (Qj h.space.fs).length 0 c) ?_ λb hb=>.some (by rw [hb])
 refine Gd.for c.length (λ(t:List Inc×Int) i=>(t.1,t.2,i)) (λi t=>t.1.length=i/\(0<=t.2/\t.2<=64)/\takF h.space bt (Qj h.space.fs).length 0 c=t.1++takF h.space bt t.2 i (c.drop i)) ([],((Qj h.space.fs).length:Int)) rfl (λ_ _=>rfl) Oo ⟨rfl,⟨by dsimp only;omega,by dsimp only;omega⟩,Os⟩ (λi hi t ht=>?_) (λt ht=>?_)
 ·obtain ⟨t1,t2,t3⟩:=ht
  have hcw:=hcm _ (Wd hi)
  have hcr:=Qca H.sp.ok.shp.sh c[i].words
  rw [WO hi] at t3
  refine .atN hi (.call (Qaq H.sp.ok.shp.sh (by unfold I64;omega)) ?_)
  rw [show w64 ((t.1,t.2,(i:Int)).2.1 - clN h.space c[i].words)=t.2 - clN h.space c[i].words from Qd (by dsimp only;omega)]
  have stop:(t.2 - clN h.space c[i].words < 0\/(¬ bt=0/\(i:Int)=bt))->t.1=takF h.space bt (Qj h.space.fs).length 0 c:=λhs=>by
   rw [t3]
   conv=>rhs;unfold takF
   rw [if_pos hs,VQ]
  have goon:¬ (t.2 - clN h.space c[i].words < 0\/(¬ bt=0/\(i:Int)=bt))->(t.1++[c[i]]).length=i+1/\(0<=t.2 - clN h.space c[i].words/\t.2 - clN h.space c[i].words<=64)/\takF h.space bt (Qj h.space.fs).length 0 c=t.1++[c[i]]++takF h.space bt (t.2 - clN h.space c[i].words) (i+1) (c.drop (i+1)):=λhs=>by
   refine ⟨by rw [Wn,WE,t1],⟨Oo,Oo⟩,?_⟩
   rw [t3]
   conv=>lhs;unfold takF
   rw [if_neg hs,WX]
   rfl
  refine .ite (λh1=>.some (.inr ⟨_,rfl,stop (.inl h1)⟩)) λh1=>?_
  refine .ite (λh2=>.pos (XD (l:=t.1) Oo Oo) (.some (.inl ⟨(t.1++[c[i]],t.2 - clN h.space c[i].words),rfl,goon (by rintro (q | q);exact h1 q;exact q.1 h2)⟩))) λh2=>?_
  refine .ite (λh3=>.some (.inr ⟨_,rfl,stop (.inr ⟨h2,by rw [<- t1];exact h3⟩)⟩)) λh3=>.pos (XD (l:=t.1) Oo Oo) (.some (.inl ⟨(t.1++[c[i]],t.2 - clN h.space c[i].words),rfl,goon (by rintro (q | q);exact h1 q;exact h3 (by rw [<- q.2,<- t1])) ⟩))
 ·obtain ⟨t1,t2,t3⟩:=ht
  rw [List.drop_length] at t3
  show t.1=_
  rw [t3]
  conv=>rhs;unfold takF
  rw [VQ]
end
structure QcL(h:Hp)(BL:List (List Itm))(k:Cur):Prop where
 lo:0<=k.belt
 hi:k.belt < BL.length
 low:∀ b (hb:b < BL.length),(b:Int) < k.belt->BL[b]=[]
 beg:k.begun=true->k.belt=(BL.length:Int) - 1/\k.last < h.seq
theorem find_uniq{l:List Inc}(hd:l.Pairwise λx y=>x.seq≠y.seq){x:Inc}(hx:x∈l):l.find? (λy=>decide (y.seq=x.seq))=some x:=by
 obtain ⟨i,hi,rfl⟩:=WQ.1 hx
 rw [U4]
 refine ⟨Os,i,hi,rfl,λj hj=>?_⟩
 have:=Wx.1 hd j i Oo hi hj
 simpa using this
theorem filter_asc{L:Int}:∀ {q:List Inc},q.Pairwise (λx y=>x.seq < y.seq)->∃ m,(q.filter λi=>decide (i.seq<=L))=q.take m
 | [],_=>⟨0,rfl⟩
 | x :: q,h=>by
  have h1:=Vf.1 h
  by_cases hc:x.seq<=L
  ·obtain ⟨m,e⟩:=filter_asc (L:=L) h1.2
   exact ⟨m+1,by rw [W4,if_pos (by simpa using hc),e];rfl⟩
  ·refine ⟨0,?_⟩
   rw [Uo,Ut]
   intro y hy
   rcases Wv.1 hy with rfl | hy
   ·simpa using hc
   ·have:=h1.1 y hy
    simp;omega
theorem flat_low{α:Type}:∀ {B:List (List α)} {b:Nat} (hb:b < B.length),(∀ a (ha:a < B.length),a < b->B[a]=[])->B.flatten=B[b]++(B.drop (b+1)).flatten
 | q :: B,0,hb,_=>rfl
 | q :: B,b+1,hb,h=>by
  have h0:q=[]:=h 0 Os Oo
  have:=flat_low (B:=B) (b:=b) (by simpa using hb) λa ha hab=>h (a+1) (by simpa using ha) Oo
  rw [Va,h0,UJ,this]
  rfl
section
variable{h:Hp}{BL:List (List Itm)}
theorem QD.blen(H:QD h BL):h.belts.length=BL.length:=by rw [H.bl,Wb]
theorem adv_ok(H:QD h BL):∀ (n:Nat) {k:Cur},QcL h BL k->QcL h BL (advK h.belts ((h.belts.length:Int) - 1) n k)
 | 0,k,hk=>hk
 | n+1,k,hk=>by
  unfold advK
  split
  ·rename_i hc
   have hl:=H.blen
   have h0:=hk.lo
   refine adv_ok H n ⟨by dsimp only;omega,by dsimp only;omega,λb hb hlt=>?_,λhb=>by cases hb⟩
   dsimp only at hlt
   rcases UY (b:Int) k.belt with c | c
   ·exact hk.low b hb c
   ·have e:k.belt.toNat=b:=by omega
    have:=hc.2
    rw [e,H.bl_at hb,Wy,Wb] at this
    exact V5 this
  ·exact hk
theorem beg_ok(H:QD h BL){k:Cur}(hk:QcL h BL k):QcL h BL (begK h.belts ((h.belts.length:Int) - 1) k)/\((begK h.belts ((h.belts.length:Int) - 1) k).belt=(h.belts.length:Int) - 1->(begK h.belts ((h.belts.length:Int) - 1) k).begun=true)/\(k.begun=true->begK h.belts ((h.belts.length:Int) - 1) k=k):=by
 have hl:=H.blen
 unfold begK
 split
 ·rename_i hc
  refine ⟨⟨hk.lo,hk.hi,hk.low,λ_=>⟨by dsimp only;omega,?_⟩⟩,λ_=>rfl,λhb=>absurd hb hc.2⟩
  cases hy:yngR h.belts ((h.belts.length:Int) - 1) with
  | none=>have:=H.sq0;show (-1:Int) < h.seq;omega
  | some y =>
   obtain ⟨x,hx,e,_⟩:=H.yng hy
   show y.seq < h.seq
   rw [<- e]
   exact H.sq x hx
 ·rename_i hc
  refine ⟨hk,λe=>?_,λ_=>rfl⟩
  apply Classical.byContradiction
  intro hb
  exact hc ⟨e,hb⟩
structure ChsOk(h:Hp)(BL:List (List Itm))(k:Cur)(l:List Inc)(k':Cur):Prop where
 tgt:TgtP h.belts l
 sum:sumI h.space l<=(Qj h.space.fs).length
 at_:∃ b:Nat,∃ hb:b < BL.length,k'.belt=(b:Int)/\∀ i∈l,∃ x∈BL[b],x.i=i/\((b:Int) < (BL.length:Int) - 1\/i.seq<=k'.last)
 len:l.length<=64
theorem chs_spec(H:QD h BL){k:Cur}(hk:QcL h BL k) :
  QcL h BL (QbO h k).2.1/\k.belt<=(QbO h k).2.1.belt/\((QbO h k).2.1.belt=(BL.length:Int) - 1->(QbO h k).2.1.begun=true)/\(k.begun=true->(QbO h k).2.1=k)/\((QbO h k).1.length≠0->(QbO h k).2.2=false/\ChsOk h BL k (QbO h k).1 (QbO h k).2.1):=by
 have hl:=H.blen
 have hkl:=hk.hi
 have a1:=adv_ok H 4 hk
 have ar:=advK_rng h.belts ((h.belts.length:Int) - 1) 4 k Oo
 obtain ⟨b1,b2,b3⟩:=beg_ok H a1
 have bb:(begK h.belts ((h.belts.length:Int) - 1) (advK h.belts ((h.belts.length:Int) - 1) 4 k)).belt=(advK h.belts ((h.belts.length:Int) - 1) 4 k).belt:=by unfold begK;split <;> rfl
 have ek:k.begun=true->advK h.belts ((h.belts.length:Int) - 1) 4 k=k:=λhb=>by
  have:=(hk.beg hb).1
  unfold advK
  rw [if_neg]
  rintro ⟨c,_⟩
  omega
 have b3':k.begun=true->begK h.belts ((h.belts.length:Int) - 1) (advK h.belts ((h.belts.length:Int) - 1) 4 k)=k:=λhb=>by
  rw [ek hb] at b3 ⊢
  exact b3 hb
 unfold QbO
 dsimp only
 generalize begK h.belts ((h.belts.length:Int) - 1) (advK h.belts ((h.belts.length:Int) - 1) 4 k)=k1 at b1 b2 bb b3' ⊢
 by_cases hc:(Qcd h.belts ((h.belts.length:Int) - 1) k1).length=0
 ·rw [if_pos hc]
  exact ⟨b1,by dsimp only;omega,λe=>b2 (by dsimp only at e;omega),b3',λk=>absurd rfl k⟩
 ·rw [if_neg hc]
  refine ⟨b1,by dsimp only;omega,λe=>b2 (by dsimp only at e;omega),b3',λhne=>⟨rfl,?_⟩⟩
  dsimp only at hne ⊢
  obtain ⟨b,hb⟩:∃ b:Nat,k1.belt=(b:Int):=⟨k1.belt.toNat,by have:=b1.lo;omega⟩
  have hbl:b < BL.length:=by have:=b1.hi;omega
  have ebn:k1.belt.toNat=b:=by omega
  have hgb:h.belts[k1.belt.toNat]?=some (BL[b].map Itm.i):=by rw [ebn];exact H.bl_at hbl
  have hasc:(BL[b].map Itm.i).Pairwise λx y=>x.seq < y.seq:=by rw [Vh];exact H.asc _ (Wd hbl)
  obtain ⟨m,hm⟩:∃ m,Qcd h.belts ((h.belts.length:Int) - 1) k1=(BL[b].map Itm.i).take m:=by
   unfold Qcd
   rw [hgb,Wy]
   by_cases hlt:k1.belt < (h.belts.length:Int) - 1
   ·refine ⟨(BL[b].map Itm.i).length,?_⟩
    rw [WH,VM]
    intro i _;simp [hlt]
   ·obtain ⟨m,e⟩:=filter_asc (L:=k1.last) hasc
    refine ⟨m,?_⟩
    rw [<- e]
    refine UA λi _=>?_
    simp [hlt]
  generalize hgt:takF h.space (((h.config.rules[k1.belt.toNat]?).map Rul.batch).getD 0) (Qj h.space.fs).length 0 (Qcd h.belts ((h.belts.length:Int) - 1) k1)=l at hne
  obtain ⟨m',hm'⟩:=takF_pre h.space (((h.config.rules[k1.belt.toNat]?).map Rul.batch).getD 0) (Qcd h.belts ((h.belts.length:Int) - 1) k1) (Qj h.space.fs).length 0
  rw [hgt] at hm'
  have hsum:=takF_sum h.space H.sp.ok.shp.sh (((h.config.rules[k1.belt.toNat]?).map Rul.batch).getD 0) (Qcd h.belts ((h.belts.length:Int) - 1) k1) (Qj h.space.fs).length 0 Oo
  rw [hgt] at hsum
  have hlm:∀ i∈l,i∈BL[b].map Itm.i/\(k1.belt < (h.belts.length:Int) - 1\/i.seq<=k1.last):=λi hi=>by
   rw [hm'] at hi
   have:=Vy hi
   unfold Qcd at this
   rw [hgb,Wy,WI] at this
   exact ⟨this.1,by simpa using this.2⟩
  have hlow:h.belts.flatten=BL[b].map Itm.i++((BL.drop (b+1)).flatten).map Itm.i:=by
   rw [H.flat,flat_low hbl λa ha hab=>b1.low a ha Oo,WF]
  have hlen:l.length<=(BL[b].map Itm.i).length:=by
   rw [hm',hm,Ws,Ws];omega
  have hpre:l=h.belts.flatten.take l.length:=by
   rw [hlow,List.take_append_of_le_length hlen]
   have:l=(BL[b].map Itm.i).take (min m' m):=by rw [hm',hm,List.take_take]
   have e2:l.length=min (min m' m) (BL[b].map Itm.i).length:=by rw [this,Ws]
   rw [e2]
   conv=>lhs;rw [this]
   rcases Nat.le_total (min m' m) (BL[b].map Itm.i).length with c | c
   ·rw [W7 c]
   ·rw [Nat.min_eq_right c,Vb c,WH]
  have hfm:∀ i∈l,i∈h.belts.flatten:=λi hi=>by rw [hlow];exact We _ (hlm i hi).1
  have hbelt:∀ i∈l,i.belt=(b:Int):=λi hi=>by
   obtain ⟨x,hx,rfl⟩:=Wj.1 (hlm i hi).1
   exact H.blt b hbl x hx
  have hl0:0 < l.length:=by omega
  refine ⟨⟨hl0,λx hx=>⟨find_uniq H.dist (hfm x hx),by rw [hbelt x hx,hbelt _ (Wd hl0)]⟩,?_⟩,hsum,⟨b,hbl,hb,λi hi=>?_⟩,?_⟩
  ·have hnd:(l.map Inc.seq).Nodup:=by
    rw [W1,Vh,hpre]
    exact H.dist.sublist (List.take_sublist _ _)
   refine ⟨?_,hnd,λs hs=>?_,λx hx=>?_⟩
   ·rw [Wb]
    have:=congrArg List.length hpre
    rw [Ws] at this
    omega
   ·rw [Wb,<- hpre]
    obtain ⟨i,hi,e⟩:=Wj.1 hs
    exact ⟨i,hi,e⟩
   ·rw [Wb,<- hpre] at hx
    exact WT hx
  ·obtain ⟨h1,h2⟩:=hlm i hi
   obtain ⟨x,hx,e⟩:=Wj.1 h1
   exact ⟨x,hx,e,by rcases h2 with h2 | h2;exact .inl Oo;exact .inr h2⟩
  ·have:=Qbg (Wd hbl)
   have:=H.count
   rw [Wb] at hlen
   omega
end
def Qdj:List Nat->Nat
 | []=>0
 | n :: l=>n * (l.length+1)+Qdj l
theorem rndS_le:∀ {A' A:List Nat},A'.length=A.length->(∀ i (h:i < A'.length) (h':i < A.length),A'[i]<=A[i])->Qdj A'<=Qdj A
 | [],[],_,_=>Wo _
 | [],_ :: _,h,_=>by simp at h
 | _ :: _,[],h,_=>by simp at h
 | n' :: A',n :: A,hl,h=>by
  have h1:=rndS_le (A':=A') (A:=A) (by simpa using hl) λi h1 h2=>h (i+1) (by simpa using h1) (by simpa using h2)
  have h2:n'<=n:=h 0 Os Os
  have h3:A'.length=A.length:=by simpa using hl
  unfold Qdj
  rw [h3]
  have:=WG (A.length+1) h2
  omega
theorem rndS_lt:∀ {A' A:List Nat} {b:Nat},A'.length=A.length->(∀ i (h:i < A'.length) (h':i < A.length),A'[i]<=A[i])->(∀ (h:b < A'.length) (h':b < A.length),A'[b] < A[b])->b < A.length->Qdj A'+(A.length - b)<=Qdj A
 | [],[],b,_,_,_,hb=>by simp at hb
 | [],_ :: _,_,h,_,_,_=>by simp at h
 | _ :: _,[],_,h,_,_,_=>by simp at h
 | n' :: A',n :: A,0,hl,h,hb,_=>by
  have h1:=rndS_le (A':=A') (A:=A) (by simpa using hl) λi h1 h2=>h (i+1) (by simpa using h1) (by simpa using h2)
  have h2:n' < n:=hb Os Os
  have h3:A'.length=A.length:=by simpa using hl
  have:=WG (A.length+1) (show n'+1<=n from h2)
  rw [Vu,Yr] at this
  show n' * (A'.length+1)+Qdj A'+(A.length+1 - 0)<=n * (A.length+1)+Qdj A
  rw [h3]
  omega
 | n' :: A',n :: A,b+1,hl,h,hb,hbl=>by
  have h1:=rndS_lt (A':=A') (A:=A) (b:=b) (by simpa using hl) (λi h1 h2=>h (i+1) (by simpa using h1) (by simpa using h2)) (λh1 h2=>hb (by simpa using h1) (by simpa using h2)) (by simpa using hbl)
  have h2:n'<=n:=h 0 Os Os
  have h3:A'.length=A.length:=by simpa using hl
  have:=WG (A.length+1) h2
  show n' * (A'.length+1)+Qdj A'+(A.length+1 - (b+1))<=n * (A.length+1)+Qdj A
  rw [h3]
  omega
theorem rndS_add:∀ {A:List Nat} {t:Nat},t < A.length->Qdj (A.modify t (·+1))=Qdj A+(A.length - t)
 | [],t,h=>by simp at h
 | n :: A,0,_=>by
  show (n+1) * (A.length+1)+Qdj A=n * (A.length+1)+Qdj A+(A.length+1 - 0)
  rw [Vu,Yr]
  omega
 | n :: A,t+1,h=>by
  have:=rndS_add (A:=A) (t:=t) (by simpa using h)
  show n * ((A.modify t (·+1)).length+1)+Qdj (A.modify t (·+1))=n * (A.length+1)+Qdj A+(A.length+1 - (t+1))
  rw [US,this]
  omega
theorem rndS_last:∀ {A:List Nat} (h:A.length - 1 < A.length),A[A.length - 1]<=Qdj A
 | [],h=>by simp at h
 | [n],_=>by show n<=n * 1+0;omega
 | n :: m :: A,_=>by
  have:=rndS_last (A:=m :: A) Os
  show (m :: A)[(m :: A).length - 1]' Os<=n * ((m :: A).length+1)+Qdj (m :: A)
  omega
theorem QeC{α:Type}{p q:α->Bool}:∀ {l:List α},(∃ x∈l,p x=true/\q x=false)->(l.filter q).countP p < l.countP p
 | [],h=>by obtain ⟨x,hx,_⟩:=h;cases hx
 | a :: l,h=>by
  have hle:∀ l:List α,(l.filter q).countP p<=l.countP p:=λl=>by
   induction l with
   | nil=>exact Wo _
   | cons b l ih =>
    rw [W4]
    split
    ·rw [Ud,Ud];omega
    ·rw [Ud];omega
  obtain ⟨x,hx,h1,h2⟩:=h
  rcases Wv.1 hx with rfl | hx
  ·rw [W4,if_neg (by rw [h2];decide),Ud,if_pos h1]
   have:=hle l
   omega
  ·have:=QeC (p:=p) (q:=q) ⟨x,hx,h1,h2⟩
   rw [W4]
   split
   ·rw [Ud,Ud];omega
   ·rw [Ud];omega
def nuR(BL:List (List Itm))(k:Cur):Nat:=if k.begun=true then ((BL[BL.length - 1]?).getD []).countP λx=>decide (x.i.seq<=k.last) else Qdj (BL.map List.length)
section
variable{h:Hp}{BL:List (List Itm)}{l:List Inc}{C K:List Itm}{T0 T:Itm}{M:List (Nat×Nat×Nat)}
theorem tgtI_belt(H:QD h BL)(hT:TgtP h.belts l){b:Nat}(hb:b < BL.length)(hbelt:(l[0]'hT.1).belt=(b:Int)):∃ hbl:b < h.config.rules.length,(tgtI h l).belt=h.config.rules[b].target:=by
 have hbl:b < h.config.rules.length:=by rw [<- H.bn];exact hb
 have et:((h.config.rules[((l.head?).getD inc0).belt.toNat]?).map Rul.target).getD 0=h.config.rules[b].target:=by
  rw [U0,Wa hT.1,Wy,hbelt,Wc,Wa hbl]
  rfl
 refine ⟨hbl,?_⟩
 unfold tgtI
 rw [et]
 dsimp only
 cases hy:yngR h.belts h.config.rules[b].target with
 | none=>rfl
 | some y =>
  dsimp only
  split
  ·obtain ⟨x,hx,e,e2⟩:=H.yng hy
   exact e2
  ·rfl
theorem step_x(H:QD h BL){k k':Cur}(hc:ChsOk h BL k l k')(hq:h.seq<=4294967294):∃ C K T0 T M,StX h BL l C K T0 T M:=by
 obtain ⟨C,K,T0,S⟩:=step_parts H hc.tgt
 have hneed:sumF h.space C<=(Qj h.space.fs).length:=by rw [<- sumI_eq,S.ci];exact hc.sum
 have hctx:=step_ctx H hc.tgt S Oo hneed (by have:=hc.len;omega)
 obtain ⟨_,T,M,R⟩:=step_run H hc.tgt S hctx
 exact ⟨C,K,T0,T,M,H,hc.tgt,S,hctx,R,hq⟩
theorem bse_at{b:Nat}(hb:b < BL.length):(Xp BL C)[b]?=some (BL[b].filter λx=>bP (x∉C)):=by unfold Xp;rw [Wg,Wa hb];rfl
theorem StX.blen(X:StX h BL l C K T0 T M):(Zd BL C T0 T).length=BL.length:=by
 unfold Zd
 split
 ·rw [Wb,XW]
 ·split
  ·rw [US,XW]
  ·exact XW _ _
theorem StX.belt(X:StX h BL l C K T0 T M){b:Nat}(hb:b < BL.length):∃ q,(Zd BL C T0 T)[b]?=some q/\((q.map λx=>x.i.seq)=(BL[b].filter λx=>bP (x∉C)).map λx=>x.i.seq)\/∃ q,(Zd BL C T0 T)[b]?=some q/\q=(BL[b].filter λx=>bP (x∉C))++[T]/\T0.i.belt.toNat=b/\T.i.seq=h.seq:=by
 have ht:=X.tq
 unfold Zd
 split
 ·refine ⟨(BL[b].filter λx=>bP (x∉C)).map (QbT T0 T),.inl ⟨by rw [Wg,bse_at hb];rfl,?_⟩⟩
  rw [WS]
  refine WU λx _=>?_
  show (QbT T0 T x).i.seq=x.i.seq
  unfold QbT
  split
  ·rename_i e;rw [e,ht.1]
  ·rfl
 ·rename_i h0
  split
  ·by_cases e:T0.i.belt.toNat=b
   ·refine ⟨[],.inr ⟨_,by rw [WW,bse_at hb];simp [e],rfl,e,?_⟩⟩
    rw [ht.1]
    rcases X.S.tin with k | ⟨c,e2⟩
    ·exact absurd k.1 h0
    ·rw [e2]
   ·exact ⟨BL[b].filter λx=>bP (x∉C),.inl ⟨by rw [WW,bse_at hb];simp [e],rfl⟩⟩
  ·exact ⟨_,.inl ⟨bse_at hb,rfl⟩⟩
theorem StX.lens(X:StX h BL l C K T0 T M):(Zd BL C T0 T).map List.length=(Xp BL C).map List.length\/(Zd BL C T0 T).map List.length=((Xp BL C).map List.length).modify T0.i.belt.toNat (·+1):=by
 unfold Zd
 split
 ·left
  rw [WS]
  refine WU λq _=>?_
  show (q.map _).length=q.length
  rw [Wb]
 ·split
  ·right
   apply VV
   intro n
   rw [Wg,WW,WW,Wg]
   cases (Xp BL C)[n]? with
   | none=>rfl
   | some q =>
    simp only [Wu,VN]
    split <;> simp
  ·exact .inl rfl
theorem StX.seqs(X:StX h BL l C K T0 T M):h.seq<=(Zn h l).seq/\(Zn h l).seq<=h.seq+1:=by
 rw [X.belts.2]
 split <;> omega
theorem step_cur(X:StX h BL l C K T0 T M){k k':Cur}(hk:QcL h BL k)(hk':QcL h BL k')(hbeg:k'.belt=(BL.length:Int) - 1->k'.begun=true)(hkk:k.begun=true->k'=k)(hc:ChsOk h BL k l k') :
  QcL (Zn h l) (Zd BL C T0 T) k'/\nuR (Zd BL C T0 T) k' < nuR BL k:=by
 obtain ⟨b,hb,eb,hl⟩:=hc.at_
 have hlen:=X.blen
 have hseq:=X.seqs
 have hbelt:(l[0]'hc.tgt.1).belt=(b:Int):=by
  obtain ⟨x,hx,e,_⟩:=hl _ (Wd hc.tgt.1)
  rw [<- e]
  exact X.H.blt b hb x hx
 obtain ⟨hbl,et⟩:=tgtI_belt X.H hc.tgt hb hbelt
 obtain ⟨_,_,_,q4,q5⟩:=X.H.cfg.rule b hbl
 have hbn:=X.H.bn
 have etT:T0.i.belt=h.config.rules[b].target:=by rw [X.S.ti];exact et
 obtain ⟨c,hcC,hcb,hcs⟩:∃ c∈C,c∈BL[b]/\((b:Int) < (BL.length:Int) - 1\/c.i.seq<=k'.last):=by
  have h0:=Wd hc.tgt.1
  obtain ⟨x,hx,e,hs⟩:=hl _ h0
  have h1:l[0]'hc.tgt.1∈C.map Itm.i:=by rw [X.S.ci];exact h0
  obtain ⟨y,hy,e2⟩:=Wj.1 h1
  have:y=x:=X.H.uniq (X.S.cin y hy) (Vc.2 ⟨_,Wd hb,hx⟩) (by rw [e2,e])
  subst this
  exact ⟨y,hy,hx,by rw [e2];exact hs⟩
 have htb:b<=T0.i.belt.toNat/\(b+1 < BL.length->b < T0.i.belt.toNat)/\T0.i.belt.toNat < BL.length:=by
  have:=X.b0
  rcases Wq (b+1) h.config.rules.length with cc | cc
  ·have:=q5 cc;rw [etT] at *;omega
  ·have:=(q4 Oo).2;rw [etT] at *;omega
 refine ⟨⟨hk'.lo,by rw [hlen];exact hk'.hi,λa ha hlt=>?_,λhg=>?_⟩,?_⟩
 ·have ha':a < BL.length:=by rw [<- hlen];exact ha
  have h0:=hk'.low a ha' hlt
  obtain ⟨q,k1 | ⟨q2,k1,_,k2,_⟩⟩:=X.belt ha'
  ·obtain ⟨e1,e2⟩:=k1
   rw [Wa ha] at e1
   injection e1 with e1
   rw [e1]
   rw [h0] at e2
   have:=congrArg List.length e2
   simp at this
   exact this
  ·omega
 ·have:=hk'.beg hg
  rw [hlen]
  exact ⟨this.1,Oo⟩
 ·have hbase:∀ i (h1:i < ((Xp BL C).map List.length).length) (h2:i < (BL.map List.length).length),((Xp BL C).map List.length)[i]<=(BL.map List.length)[i]:=λi h1 h2=>by
   rw [Wb] at h2
   rw [W5,W5]
   have e:=bse_at (C:=C) h2
   rw [Wa (by rw [XW];exact h2)] at e
   injection e with e
   rw [e]
   exact WN _ _
  have hbll:((Xp BL C).map List.length).length=(BL.map List.length).length:=by rw [Wb,Wb,XW]
  by_cases hg:k'.begun=true
  ·
   have hb1:=(hk'.beg hg).1
   have hbb:b=BL.length - 1:=by omega
   have hcs':c.i.seq<=k'.last:=by rcases hcs with q | q;omega;exact q
   have hcnt:(((Zd BL C T0 T)[(Zd BL C T0 T).length - 1]?).getD []).countP (λx=>decide (x.i.seq<=k'.last))=(BL[b].filter λx=>bP (x∉C)).countP λx=>decide (x.i.seq<=k'.last):=by
    rw [hlen,<- hbb]
    have hmap:∀ q:List Itm,q.countP (λx=>decide (x.i.seq<=k'.last))=(q.map λx=>x.i.seq).countP λs=>decide (s<=k'.last):=λq=>by rw [List.countP_map];rfl
    obtain ⟨q,k1 | ⟨q2,k1,k2,k3,k4⟩⟩:=X.belt hb
    ·rw [k1.1,Wy,hmap,k1.2,<- hmap]
    ·rw [k1,Wy,k2,List.countP_append]
     have:=(hk'.beg hg).2
     rw [show [T].countP (λx=>decide (x.i.seq<=k'.last))=0 from by rw [List.countP_eq_zero];intro x hx;rw [Wl.1 hx,k4];simp;omega,VI]
   have hlt:(BL[b].filter λx=>bP (x∉C)).countP (λx=>decide (x.i.seq<=k'.last)) < BL[b].countP λx=>decide (x.i.seq<=k'.last):=QeC ⟨c,hcb,by simpa using hcs',bP_f λk=>k hcC⟩
   have e1:nuR (Zd BL C T0 T) k'=(BL[b].filter λx=>bP (x∉C)).countP λx=>decide (x.i.seq<=k'.last):=by unfold nuR;rw [if_pos hg];exact hcnt
   rw [e1]
   by_cases hgk:k.begun=true
   ·have:=hkk hgk
    subst this
    unfold nuR
    rw [if_pos hgk,<- hbb,Wa hb]
    exact hlt
   ·have e2:nuR BL k=Qdj (BL.map List.length):=by unfold nuR;rw [if_neg hgk]
    have h3:=rndS_last (A:=BL.map List.length) (by rw [Wb];omega)
    rw [W5] at h3
    have h4:BL[b].countP (λx=>decide (x.i.seq<=k'.last))<=BL[b].length:=List.countP_le_length
    have h5:BL[(BL.map List.length).length - 1]'(by rw [Wb];omega)=BL[b]:=by congr 1;rw [Wb];omega
    rw [h5] at h3
    omega
  ·have hgk:¬ k.begun=true:=λq=>hg (by rw [hkk q];exact q)
   have hb1:b+1 < BL.length:=by
    have:=hk'.hi
    rcases Wq (b+1) BL.length with q | q
    ·exact q
    ·exact absurd (hbeg Oo) hg
   unfold nuR
   rw [if_neg hg,if_neg hgk]
   have hlt:=rndS_lt (A':=(Xp BL C).map List.length) (A:=BL.map List.length) (b:=b) hbll hbase (λh1 h2=>by
    rw [W5,W5]
    have e:=bse_at (C:=C) hb
    rw [Wa (by rw [XW];exact hb)] at e
    injection e with e
    rw [e]
    refine List.length_filter_lt_length_iff_exists.2 ⟨c,hcb,?_⟩
    rw [bP_f λk=>k hcC];decide) (by rw [Wb];exact hb)
   rw [Wb] at hlt
   rcases X.lens with e | e
   ·rw [e];omega
   ·rw [e,rndS_add (by rw [Wb,XW];exact htb.2.2),Wb,XW]
    have:=htb.2.1 hb1
    omega
end
def endH(h:Hp):Hp:=⟨h.config,h.space,h.belts,h.seq,h.sets,h.roots,0,⟨h.stats.allocated,h.stats.objects,h.stats.collections,h.stats.steps,w64 (h.stats.rounds+1),h.stats.condemned,h.stats.copied,h.stats.entries,h.stats.work⟩,h.dead⟩
def QeA(h:Hp)(n:Int):Prop:=0 < n/\¬ (ZW h n).1=3/\ovrL h=[]
noncomputable def Qcn(n:Int):Nat->Hp->Cur->Hp×Bool
 | 0,h,_=>(h,false)
 | f+1,h,k=>open Classical in
  if QeA h n then (h,false)
  else if (QbO h k).2.2=true then (endH h,true)
  else if (QbO h k).1.length=0 then (h,false)
  else Qcn n f (Zn h (QbO h k).1) (QbO h k).2.1
open Classical in
theorem rndN_succ (n:Int) (f:Nat) (h:Hp) (k:Cur):Qcn n (f+1) h k=if QeA h n then (h,false) else if (QbO h k).2.2=true then (endH h,true) else if (QbO h k).1.length=0 then (h,false) else Qcn n f (Zn h (QbO h k).1) (QbO h k).2.1:=rfl
inductive Stps:Hp->List (List Itm)->Nat->Hp->List (List Itm)->Prop
 | refl {h:Hp} {BL:List (List Itm)}:Stps h BL 0 h BL
 | step {h h':Hp} {BL BL':List (List Itm)} {m:Nat} {l:List Inc} {C K:List Itm} {T0 T:Itm} {M:List (Nat×Nat×Nat)}:StX h BL l C K T0 T M->Stps (Zn h l) (Zd BL C T0 T) m h' BL'->Stps h BL (m+1) h' BL'
theorem Stps.inv{h h':Hp}{BL BL':List (List Itm)}{m:Nat}(s:Stps h BL m h' BL')(H:QD h BL):QD h' BL':=by
 induction s with
 | refl=>exact H
 | step X _ ih=>exact ih X.inv
theorem Stps.keep{h h':Hp}{BL BL':List (List Itm)}{m:Nat}(s:Stps h BL m h' BL'):h'.config=h.config/\h'.dead=h.dead/\h'.since=h.since/\h.seq<=h'.seq/\h'.seq<=h.seq+m/\h'.roots.used=h.roots.used/\h'.space.sh=h.space.sh/\h'.space.ws.length=h.space.ws.length/\h'.space.fs.length=h.space.fs.length:=by
 induction s with
 | refl=>exact ⟨rfl,rfl,rfl,Vk _,Oo,rfl,rfl,rfl,rfl⟩
 | step X _ ih =>
  have hs:=X.seqs
  have hl:=X.len3
  obtain ⟨a,b,c,d,e,f,g,i,j⟩:=ih
  exact ⟨a,b,c,Oo,by push_cast;omega,f,g,i.trans hl.1,j.trans hl.2⟩
def StopP(h:Hp)(n:Int)(k:Cur)(r:Hp×Bool):Prop:=(r=(h,false)/\(QeA h n\/((QbO h k).2.2=false/\(QbO h k).1=[])))\/(r=(endH h,true)/\¬ QeA h n/\(QbO h k).2.2=true)
theorem rnd_steps{n:Int}:∀ (f:Nat) {h:Hp} {BL:List (List Itm)} {k:Cur},QD h BL->QcL h BL k->nuR BL k < f->h.seq+nuR BL k<=4294967294 ->
  ∃ h1 BL1 m k1,Stps h BL m h1 BL1/\m<=nuR BL k/\QcL h1 BL1 k1/\StopP h1 n k1 (Qcn n f h k)
 | 0,h,BL,k,_,_,hf,_=>absurd hf (Vo _)
 | f+1,h,BL,k,H,hk,hf,hq=>by
  obtain ⟨c1,c2,c3,c4,c5⟩:=chs_spec H hk
  unfold Qcn
  by_cases he:QeA h n
  ·rw [if_pos he]
   exact ⟨h,BL,0,k,.refl,W9 _,hk,.inl ⟨rfl,.inl he⟩⟩
  ·rw [if_neg he]
   by_cases h1:(QbO h k).2.2=true
   ·rw [if_pos h1]
    exact ⟨h,BL,0,k,.refl,W9 _,hk,.inr ⟨rfl,he,h1⟩⟩
   ·rw [if_neg h1]
    by_cases h2:(QbO h k).1.length=0
    ·rw [if_pos h2]
     exact ⟨h,BL,0,k,.refl,W9 _,hk,.inl ⟨rfl,.inr ⟨by simpa using h1,V5 h2⟩⟩⟩
    ·rw [if_neg h2]
     obtain ⟨_,hc⟩:=c5 h2
     obtain ⟨C,K,T0,T,M,X⟩:=step_x H hc Oo
     obtain ⟨s1,s2⟩:=step_cur X hk c1 c3 c4 hc
     have hs:=X.seqs
     obtain ⟨h',BL',m,k',g1,g2,g3,g4⟩:=rnd_steps (n:=n) f X.inv s1 Oo Oo
     exact ⟨h',BL',m+1,k',.step X g1,Oo,g3,g4⟩
theorem nuR_0(BL:List (List Itm)):nuR BL ⟨0,false,0⟩=Qdj (BL.map List.length):=rfl
theorem rndS_256{h:Hp}{BL:List (List Itm)}(H:QD h BL):Qdj (BL.map List.length)<=256:=by
 have h1:=H.count
 have h2:=H.cfg.len
 have h3:=H.bn
 have key:∀ (A:List Nat),Qdj A<=A.sum * A.length:=by
  intro A
  induction A with
  | nil=>exact Wo _
  | cons n A ih =>
   show n * (A.length+1)+Qdj A<=(n :: A).sum * (A.length+1)
   rw [UI,Vu]
   have:=Nat.mul_le_mul_left A.sum (Nat.le_succ A.length)
   have e:A.sum * (A.length+1)=A.sum * A.length+A.sum:=by rw [Nat.mul_add,YN]
   omega
 have h4:=key (BL.map List.length)
 rw [<- List.length_flatten,Wb] at h4
 have:BL.flatten.length * BL.length<=64 * 4:=Uh h1 Oo
 omega
theorem cur_0{h:Hp}{BL:List (List Itm)}(H:QD h BL):QcL h BL ⟨0,false,0⟩:=by
 have:=H.b0
 have:=H.blen
 exact ⟨Vk _,by dsimp only;omega,λb _ hlt=>by dsimp only at hlt;omega,λh=>by cases h⟩
theorem loop_fuel{σ β:Type}{F:σ->Option (LS σ β)}{I:Nat->σ->β->Prop}(h0:∀ s b,¬ I 0 s b)(h:∀ f s b,I (f+1) s b->Gd (λa=>(∃ s',a=LS.go s'/\I f s' b)\/a=LS.out b) (F s)):∀ f s b,I f s b->Qi F s=some b
 | 0,s,b,hI=>absurd hI (h0 s b)
 | f+1,s,b,hI=>by
  obtain ⟨a,h1,h2⟩:=h f s b hI
  rcases h2 with ⟨s',rfl,h3⟩ | rfl
  ·rw [QdN h1];exact loop_fuel h0 h f s' b h3
  ·exact Qbj h1
abbrev RndT:=ByteArray×List Rul×Int×Int×List Int×List Fe×List (List Inc)×Int×List Qe×List Bool×List Int×Int×Int×Int×Int×Int×Int×Int×Int×Int×Int×Bool×Cur
def mkR(h:Hp)(k:Cur):RndT:=(h.config.name,h.config.rules,h.config.full,h.space.sh,h.space.ws,h.space.fs,h.belts,h.seq,h.sets,h.roots.used,h.roots.refs,h.since,h.stats.allocated,h.stats.objects,h.stats.collections,h.stats.steps,h.stats.rounds,h.stats.condemned,h.stats.copied,h.stats.entries,h.stats.work,h.dead,k)
set_option maxHeartbeats 1000000 in
theorem round_c{h:Hp}{BL:List (List Itm)}(H:QD h BL){n:Int}(hn:n=0\/(1<=n/\n<=1000))(hq:h.seq+256<=4294967294):Zh h n=some (Qcn n 300 h ⟨0,false,0⟩):=by
 have h256:=rndS_256 H
 refine Gd.eq ?_
 unfold Zh
 refine .call (QaP H) ?_
 refine Gd.of (loop_fuel (I:=λf (x:RndT) b=>∃ h1 BL1 k,x=mkR h1 k/\QD h1 BL1/\QcL h1 BL1 k/\nuR BL1 k < f/\h1.seq+nuR BL1 k<=4294967294/\b=Qcn n f h1 k) (λs b hI=>?_) (λf s b hI=>?_) 300 _ _ ⟨h,BL,⟨0,false,0⟩,rfl,H,cur_0 H,by rw [nuR_0];omega,by rw [nuR_0];omega,rfl⟩) rfl
 ·obtain ⟨_,_,_,_,_,_,hf,_⟩:=hI
  omega
 obtain ⟨h1,BL1,k,rfl,H1,hk,hf,hs,rfl⟩:=hI
 obtain ⟨c1,c2,c3,c4,c5⟩:=chs_spec H1 hk
 have hblen:=H1.blen
 rw [rndN_succ]
 refine Gd.bndR (P:=λz=>(z = .inl ()/\¬ QeA h1 n)\/(z = .inr (.out (h1,false))/\QeA h1 n)) ?_ (λ_ hP=>?_) (λr hP=>?_)
 ·refine .ite (λh0=>?_) λh0=>.some (.inl ⟨rfl,λe=>h0 e.1⟩)
  have hn1:1<=n/\n<=1000:=by omega
  refine .call (wants_c H1 hn1) ?_
  refine .ite (λhw=>.some (.inl ⟨rfl,λe=>e.2.1 (of_decide_eq_true hw)⟩)) λhw=>?_
  refine .call (over_c H1) ?_
  rw [Wb]
  refine .ite (λho=>.some (.inr ⟨rfl,h0,λe=>hw (decide_eq_true e),V5 Oo⟩)) λho=>.some (.inl ⟨rfl,λe=>ho (by rw [e.2.2];rfl)⟩)
 ·rcases hP with ⟨_,he⟩ | ⟨hP,_⟩
  ·rw [if_neg he]
   refine .call (choose_c H1 ⟨hk.lo,by rw [hblen];exact hk.hi⟩) ?_
   refine .ite (λh3=>.some (.inr (by rw [if_pos (show (QbO h1 k).2.2=true from h3)];rfl))) λh3=>?_
   have h3:¬ (QbO h1 k).2.2=true:=h3
   rw [if_neg h3]
   refine .ite (λh4=>.some (.inr (by
    have h4:((QbO h1 k).1.length:Int)=0:=h4
    rw [if_pos (show (QbO h1 k).1.length=0 by omega)];rfl))) λh4=>?_
   have h4:¬ ((QbO h1 k).1.length:Int)=0:=h4
   have h4:¬ (QbO h1 k).1.length=0:=by omega
   rw [if_neg h4]
   obtain ⟨_,hc⟩:=c5 h4
   obtain ⟨C,K,T0,T,M,X⟩:=step_x H1 hc Oo
   obtain ⟨s1,s2⟩:=step_cur X hk c1 c3 c4 hc
   have hsq:=X.seqs
   have hdo:=do_c H1 (QbO h1 k).1 (by have:=hc.len;omega) Oo
   rw [if_pos hc.tgt,if_pos hc.sum] at hdo
   refine .call hdo (.pos rfl (.some (.inl ⟨_,rfl,Zn h1 (QbO h1 k).1,Zd BL1 C T0 T,(QbO h1 k).2.1,rfl,X.inv,s1,Oo,Oo,rfl⟩)))
  ·cases hP
 ·rcases hP with ⟨hP,_⟩ | ⟨hP,he⟩
  ·cases hP
  ·injection hP with hP
   rw [if_pos he]
   exact .inr hP
theorem full_c{h:Hp}{BL:List (List Itm)}(H:QD h BL)(hq:h.seq+256<=4294967294):Z5 h=some (Qcn 0 300 h ⟨0,false,0⟩):=by
 unfold Z5
 rw [round_c H (.inl rfl) hq]
 rfl
theorem QD.of{h h':Hp}{BL:List (List Itm)}(H:QD h BL)(h1:h'.config=h.config)(h2:h'.space=h.space)(h3:h'.belts=h.belts)(h4:h'.seq=h.seq)(h5:h'.sets=h.sets)(h6:h'.roots=h.roots):QD h' BL:=by
 obtain ⟨a1,a2,a3,a4,a5,a6,a7,a8,a9,b1,b2,b3,b4,b5,b6,b7,b8⟩:=H
 exact ⟨by rw [h1];exact a1,by rw [h3];exact a2,by rw [h1];exact a3,by rw [h2];exact a4,a5,a6,a7,by rw [h4];exact a8,by rw [h4];exact a9,by rw [h6];exact b1,by rw [h6,h2];exact b2,by rw [h2];exact b3,by rw [h5];exact b4,by rw [h5];exact b5,by rw [h5,h2];exact b6,by rw [h5,h2];exact b7,by rw [h1,h2];exact b8⟩
theorem Qa7.perm{s:Sp}{L L':List Itm}(h:Qa7 s L)(p:L.Perm L'):Qa7 s L' :=
 ⟨h.ok,h.w,λx hx=>h.each x (p.mem_iff.2 hx),(p.pairwise_iff λk e=>k e.symm).1 h.seqs,λk hk h0=>by
  obtain ⟨x,hx,hkx⟩:=h.all k hk h0
  exact ⟨x,p.mem_iff.1 hx,hkx⟩⟩
noncomputable def Qd8(h:Hp)(i:Inc)(r d:Int):Int:=(GoR ⟨h.space.sh,h.space.ws,QX h.space i (1+r+d)⟩ ((grw h.space i (1+r+d)).first * 2 ^ h.space.sh.toNat) i.words).1
noncomputable def putS(h:Hp)(i:Inc)(r d:Int):Sp:=⟨h.space.sh,clrL ⟨h.space.sh,h.space.ws,QX h.space i (1+r+d)⟩ (Qd8 h i r d) (r+d).toNat (h.space.ws.set (Qd8 h i r d).toNat (hdW r d)),QX h.space i (1+r+d)⟩
noncomputable def QdF(h:Hp)(kind:Int)(i:Inc)(r d:Int):Hp :=
 ⟨h.config,putS h i r d,if kind=2 then addB h.belts (grw h.space i (1+r+d)) else repB h.belts (grw h.space i (1+r+d)),if kind=2 then w64 (h.seq+1) else h.seq,h.sets,h.roots,h.since,
  ⟨w64 (h.stats.allocated+(1+r+d)),w64 (h.stats.objects+1),h.stats.collections,h.stats.steps,h.stats.rounds,h.stats.condemned,h.stats.copied,h.stats.entries,h.stats.work⟩,h.dead⟩
structure ZX(h:Hp)(BL:List (List Itm))(kind:Int)(x:Itm)(r d:Nat):Prop where
 H:QD h BL
 it:JN h.space x
 r15:r<=15
 d32:d<=32
 room:exN h.space x.i ((1+r+d:Nat):Int)<=(Qj h.space.fs).length
 resv:CplP h.config->2 * (h.space.fs.length - (Qj h.space.fs).length+exN h.space x.i ((1+r+d:Nat):Int))<=h.space.fs.length
 how:(kind=1/\x∈BL.flatten)\/(kind=2/\x=newI h.seq 0)
 q:h.seq<=4294967294
theorem exN_cl{s:Sp}(hs:Qbs s){i:Inc}{n:Int}(h0:0<=i.words/\i.words<=s.ws.length)(hn:1<=n/\n<=48):(exN s i n:Int)=clN s (i.words+n) - clN s i.words:=(exN_ok hs h0 hn).1.symm
theorem plan_x{h:Hp}{BL:List (List Itm)}(H:QD h BL){r d:Nat}(hr:r<=15)(hd:d<=32)(hq:h.seq<=4294967294){k:Int}{i:Inc}(hp:ZW h ((1+r+d:Nat):Int)=(k,i))(hk:¬ k=3):∃ x,x.i=i/\ZX h BL k x r d:=by
 unfold ZW at hp
 cases hc:candR h with
 | none=>rw [hc] at hp;injection hp with h1 h2;exact absurd h1.symm hk
 | some p =>
  obtain ⟨k',i'⟩:=p
  rw [hc] at hp
  dsimp only at hp
  split at hp
  ·rename_i hg
   injection hp with h1 h2
   subst h1;subst h2
   obtain ⟨x,hxi,hX,how⟩:∃ x:Itm,x.i=i'/\JN h.space x/\((k'=1/\x∈BL.flatten)\/(k'=2/\x=newI h.seq 0)):=by
    rcases candR_in H hc with ⟨e1,hy,_⟩ | ⟨e1,e2⟩
    ·obtain ⟨x,hx,e,_⟩:=H.yng hy
     exact ⟨x,e,H.sp.each x hx,.inl ⟨e1,hx⟩⟩
    ·have:=H.sp.add (q:=h.seq) (b:=0) ⟨H.sq0,Oo⟩ ⟨Oo,Oo⟩ λx hx=>by have:=H.sq x hx;omega
     exact ⟨newI h.seq 0,e2.symm,this.each _ (Wh _ (Wl.2 rfl)),.inr ⟨e1,rfl⟩⟩
   subst hxi
   have hwd:=hX.inc.wd
   have hex:=exN_cl H.sp.ok.shp hwd (n:=((1+r+d:Nat):Int)) ⟨Oo,Oo⟩
   have hfl:=Qev h.space.fs
   unfold GrnP usdF at hg
   rw [<- hex] at hg
   refine ⟨x,rfl,H,hX,hr,hd,?_,λhcp=>?_,how,hq⟩
   ·rcases hg with hg | hg
    ·omega
    ·have:=hg.1;omega
   ·have h0:=H.resv hcp
    rcases hg with hg | hg
    ·omega
    ·have:=hg.2.1 hcp;omega
  ·injection hp with h1 h2;exact absurd h1.symm hk
section
variable{h:Hp}{BL:List (List Itm)}{kind:Int}{x:Itm}{r d:Nat}
noncomputable abbrev JC(h:Hp)(x:Itm)(r d:Nat):Itm:=aloX h.space x r d
noncomputable def J3(BL:List (List Itm))(kind:Int)(x x':Itm):List (List Itm):=if kind=2 then BL.modify 0 λq=>q++[x'] else BL.map λq=>q.map (QbT x x')
theorem ZX.cast(X:ZX h BL kind x r d):(1+(r:Int)+d)=((1+r+d:Nat):Int):=by push_cast;rfl
theorem ZX.gk(X:ZX h BL kind x r d):GrwOk h.space x.i x.fr ((1+r+d:Nat):Int):=Qet X.H.sp.ok X.it.inc ⟨Oo,by have:=X.r15;have:=X.d32;omega⟩ X.room
theorem ZX.ats(X:ZX h BL kind x r d):Qd8 h x.i r d=((adr (szS h.space) (JC h x r d).fr x.i.words.toNat:Nat):Int):=by
 unfold Qd8
 rw [X.cast,X.gk.at X.H.sp.ok X.it.inc ⟨Oo,by have:=X.r15;have:=X.d32;omega⟩ X.room]
 rfl
theorem ZX.space(X:ZX h BL kind x r d):putS h x.i r d=QbU h.space x r d:=by
 unfold putS QbU iniW
 rw [X.ats,X.cast,Wc,show ((r:Int)+d).toNat=r+d by omega]
 rfl
theorem ZX.own(X:ZX h BL kind x r d):XA (QbU h.space x r d)/\SpW (QbU h.space x r d)/\JN (QbU h.space x r d) (JC h x r d):=alo_own X.H.sp.ok X.H.sp.w X.it X.r15 X.d32 X.room
theorem ZX.z(X:ZX h BL kind x r d):szS (QbU h.space x r d)=szS h.space:=rfl
theorem ZX.i(X:ZX h BL kind x r d):(JC h x r d).i.seq=x.i.seq/\(JC h x r d).i.belt=x.i.belt/\(JC h x r d).i.words=x.i.words+(1+r+d):=by
 have:=X.gk.same
 exact ⟨this.2.1,this.2.2,by show (grw h.space x.i ((1+r+d:Nat):Int)).words=_;rw [this.1];push_cast;omega⟩
theorem ZX.bl0(X:ZX h BL kind x r d):0 < BL.length:=by
 have:=X.H.cfg.len
 have:=X.H.bn
 omega
theorem ZX.perm(X:ZX h BL kind x r d):∃ A B,(∀ y∈A++B,y∈BL.flatten/\y≠x)/\(∀ y∈BL.flatten,y=x\/y∈A++B)/\Qa7 h.space (A++x :: B)/\(A++JC h x r d :: B).Perm (J3 BL kind x (JC h x r d)).flatten:=by
 unfold J3
 rcases X.how with ⟨e,hx⟩ | ⟨e,ex⟩
 ·subst e
  rw [if_neg Od]
  obtain ⟨A,B,eAB⟩:=List.append_of_mem hx
  have hd:=X.H.sp.seqs
  rw [eAB] at hd
  have hne:∀ y∈A++B,y≠x:=λy hy e=>by
   obtain ⟨_,p2,p3⟩:=WV.1 hd
   rcases Wk.1 hy with hy | hy
   ·exact p3 y hy x (Wz ..) (by rw [e])
   ·exact (Vf.1 p2).1 y hy (by rw [e])
  refine ⟨A,B,λy hy=>⟨?_,hne y hy⟩,λy hy=>?_,by rw [<- eAB];exact X.H.sp,?_⟩
  ·rw [eAB]
   rcases Wk.1 hy with hy | hy
   ·exact We _ hy
   ·exact Wh _ (Wm _ hy)
  ·rw [eAB] at hy
   rcases Wk.1 hy with hy | hy
   ·exact .inr (We _ hy)
   ·rcases Wv.1 hy with hy | hy
    ·exact .inl hy
    ·exact .inr (Wh _ hy)
  ·rw [<- U7,eAB,WF,W3]
   have hA:A.map (QbT x (JC h x r d))=A:=by
    refine (WU λy hy=>?_).trans (YP A)
    unfold QbT
    rw [if_neg (hne y (We _ hy))];rfl
   have hB:B.map (QbT x (JC h x r d))=B:=by
    refine (WU λy hy=>?_).trans (YP B)
    unfold QbT
    rw [if_neg (hne y (Wh _ hy))];rfl
   rw [hA,hB,show QbT x (JC h x r d) x=JC h x r d from by unfold QbT;rw [if_pos rfl]]
 ·subst e
  rw [if_pos rfl]
  have hsp:=X.H.sp.add (q:=h.seq) (b:=0) ⟨X.H.sq0,by have:=X.q;omega⟩ ⟨Oo,Oo⟩ λx hx=>by have:=X.H.sq x hx;omega
  refine ⟨BL.flatten,[],λy hy=>?_,λy hy=>.inr (by simpa using hy),by rw [ex];exact hsp,(QdS _ _ _ X.bl0).symm⟩
  rw [VQ] at hy
  refine ⟨hy,λe=>?_⟩
  have:=X.H.sq y hy
  rw [e,ex] at this
  dsimp only at this
  omega
theorem ZX.sp(X:ZX h BL kind x r d):Qa7 (QbU h.space x r d) (J3 BL kind x (JC h x r d)).flatten:=by
 obtain ⟨A,B,_,_,h1,h2⟩:=X.perm
 exact (alo_inv h1 X.r15 X.d32 X.room).perm h2
theorem ZX.mem(X:ZX h BL kind x r d){y:Itm}:y∈(J3 BL kind x (JC h x r d)).flatten<->y=JC h x r d\/(y∈BL.flatten/\y≠x):=by
 obtain ⟨A,B,h0,h00,h1,h2⟩:=X.perm
 rw [<- h2.mem_iff,Wk,Wv]
 constructor
 ·rintro (k | k | k)
  ·exact .inr (h0 y (We _ k))
  ·exact .inl k
  ·exact .inr (h0 y (Wh _ k))
 ·rintro (k | ⟨k,k2⟩)
  ·exact .inr (.inl k)
  ·rcases h00 y k with e | e
   ·exact absurd e k2
   ·rcases Wk.1 e with e | e
    ·exact .inl e
    ·exact .inr (.inr e)
theorem ZX.osI(X:ZX h BL kind x r d):obs 0 (JC h x r d).os=obs 0 x.os++[(x.i.words.toNat,r,d)]:=obs_snoc X.it.lay
theorem ZX.room'(X:ZX h BL kind x r d):x.i.words.toNat+1+r+d<=(JC h x r d).fr.length * szS h.space/\x.i.words.toNat<=x.fr.length * szS h.space:=by
 have h1:=X.own.2.2.inc.room X.own.1
 have h2:=X.it.inc.room X.H.sp.ok
 have h3:=X.i.2.2
 have h4:=X.it.inc.wd
 rw [X.z] at h1
 omega
theorem ZX.old_adr(X:ZX h BL kind x r d){p:Nat}(hp:p < x.i.words.toNat):adr (szS h.space) (JC h x r d).fr p=adr (szS h.space) x.fr p:=by
 have hz:=(XC X.H.sp.ok.shp.sh).2.2.1
 have:=X.room'.2
 exact ZO Oo Oo
theorem ZX.cases(X:ZX h BL kind x r d){y:Itm}(hy:y∈(J3 BL kind x (JC h x r d)).flatten){p a b:Nat}(hp:(p,a,b)∈obs 0 y.os) :
  (∃ y'∈BL.flatten,(p,a,b)∈obs 0 y'.os/\∀ k,k<=a+b->adr (szS h.space) y.fr (p+k)=adr (szS h.space) y'.fr (p+k))\/(y=JC h x r d/\p=x.i.words.toNat/\a=r/\b=d):=by
 rcases X.mem.1 hy with rfl | ⟨k,_⟩
 ·rw [X.osI] at hp
  rcases Wk.1 hp with hp | hp
  ·have hg:=X.it.lay.get _ hp
   dsimp only at hg
   left
   rcases X.how with ⟨_,hx⟩ | ⟨_,ex⟩
   ·exact ⟨x,hx,hp,λk hk=>X.old_adr Oo⟩
   ·rw [ex] at hp;cases hp
  ·have:=Wl.1 hp
   injection this with e1 e2
   injection e2 with e2 e3
   exact .inr ⟨rfl,e1,e2,e3⟩
 ·exact .inl ⟨y,k,hp,λk _=>rfl⟩
theorem ZX.objs(X:ZX h BL kind x r d){y:Itm}(hy:y∈BL.flatten){p a b:Nat}(hp:(p,a,b)∈obs 0 y.os) :
  ∃ y'∈(J3 BL kind x (JC h x r d)).flatten,(p,a,b)∈obs 0 y'.os/\∀ k,k<=a+b->adr (szS h.space) y'.fr (p+k)=adr (szS h.space) y.fr (p+k):=by
 by_cases e:y=x
 ·subst e
  have hg:=X.it.lay.get _ hp
  dsimp only at hg
  exact ⟨_,X.mem.2 (.inl rfl),by rw [X.osI];exact We _ hp,λk hk=>X.old_adr Oo⟩
 ·exact ⟨y,X.mem.2 (.inr ⟨hy,e⟩),hp,λk _=>rfl⟩
theorem ZX.word(X:ZX h BL kind x r d){y:Itm}(hy:y∈BL.flatten){p:Nat}(hp:p < y.i.words.toNat):(QbU h.space x r d).ws[adr (szS h.space) y.fr p]?=h.space.ws[adr (szS h.space) y.fr p]?:=by
 have hz:=(XC X.H.sp.ok.shp.sh).2.2.1
 have hY:=X.H.sp.each y hy
 have hry:=hY.inc.room X.H.sp.ok
 have hr:=X.room'
 have hgk:=X.gk
 refine Qbm (s:=⟨h.space.sh,h.space.ws,QX h.space x.i ((1+r+d:Nat):Int)⟩) (fr:=(JC h x r d).fr) (p:=x.i.words.toNat) hgk.sp.shp hgk.inc.toIncC.ch hgk.inc.toIncC.own (by show _ < _ * szS h.space;omega) (x:=adr (szS h.space) y.fr p) λk hk e=>?_
 have e:adr (szS h.space) y.fr p=adr (szS h.space) (JC h x r d).fr (x.i.words.toNat+k):=e
 by_cases ey:y=x
 ·subst ey
  rw [<- X.old_adr hp] at e
  have:=QaS Oo hgk.inc.nd (p:=p) (q:=y.i.words.toNat+k) (by show _ < (JC h y r d).fr.length * _;omega) (by show _ < (JC h y r d).fr.length * _;omega) e
  omega
 ·have h1:=X.sp.each y (X.mem.2 (.inr ⟨hy,ey⟩))
  have h2:=X.own.2.2
  refine Qdg Oo (h1.inc.toIncC.disj h2.inc.toIncC ?_) (p:=p) (q:=x.i.words.toNat+k) Oo Oo e
  rw [X.i.1]
  rcases X.how with ⟨_,hx⟩ | ⟨_,ex⟩
  ·exact λk=>ey (X.H.uniq hy hx k)
  ·have:=X.H.sq y hy
   rw [ex];show y.i.seq≠h.seq;omega
theorem ZX.new0(X:ZX h BL kind x r d){k:Nat}(h1:1<=k)(h2:k<=r+d):wAt (QbU h.space x r d) ((adr (szS h.space) (JC h x r d).fr (x.i.words.toNat+k):Nat):Int)=0:=by
 have hr:=X.room'
 have hgk:=X.gk
 have:=iniW_0 (s:=⟨h.space.sh,h.space.ws,QX h.space x.i ((1+r+d:Nat):Int)⟩) (fr:=(JC h x r d).fr) (p:=x.i.words.toNat) (r:=r) (d:=d) hgk.sp.shp hgk.inc.toIncC.ch hgk.inc.nd hgk.inc.toIncC.own (by show _ < _ * szS h.space;omega) h1 h2
 exact Xy this
theorem ZX.frame(X:ZX h BL kind x r d){y:Itm}(hy:y∈BL.flatten){k:Nat}(hk:k∈y.fr):∃ (h0:k < h.space.fs.length) (h3:k < (QbU h.space x r d).fs.length),(QbU h.space x r d).fs[k].ow=h.space.fs[k].ow/\(QbU h.space x r d).fs[k].st=h.space.fs[k].st/\¬ h.space.fs[k].ow = -1:=by
 have h0i:=(X.H.sp.each y hy).inc.toIncC
 have h0:=h0i.ch.lt k hk
 have h3:k < (QbU h.space x r d).fs.length:=by show k < (QX _ _ _).length;rw [X.gk.len];exact h0
 refine ⟨h0,h3,?_⟩
 have hsq:=h0i.sq
 rw [(h0i.ow k h0).2 hk,h0i.st k h0 hk]
 by_cases e:y=x
 ·subst e
  have h3i:=X.own.2.2.inc.toIncC
  have hk3:k∈(JC h y r d).fr:=We _ hk
  refine ⟨?_,?_,Oo⟩
  ·rw [(h3i.ow k h3).2 hk3,X.i.1]
  ·rw [h3i.st k h3 hk3,X.i.1,X.i.2.1]
 ·have h3i:=(X.sp.each y (X.mem.2 (.inr ⟨hy,e⟩))).inc.toIncC
  exact ⟨(h3i.ow k h3).2 hk,h3i.st k h3 hk,Oo⟩
theorem ZX.belts(X:ZX h BL kind x r d):(QdF h kind x.i r d).belts=(J3 BL kind x (JC h x r d)).map λq=>q.map Itm.i:=by
 show (if kind=2 then addB h.belts (grw h.space x.i (1+(r:Int)+d)) else repB h.belts (grw h.space x.i (1+(r:Int)+d)))=_
 rw [X.cast]
 have hi:=X.i
 have hgi:grw h.space x.i ((1+r+d:Nat):Int)=(JC h x r d).i:=rfl
 rw [hgi]
 unfold J3
 rcases X.how with ⟨e,hx⟩ | ⟨e,ex⟩
 ·subst e
  rw [if_neg Od,if_neg Od]
  unfold repB
  rw [X.H.bl]
  apply VV
  intro n
  rw [WW,Wg,Wg,Wg]
  cases hb:BL[n]? with
  | none=>rfl
  | some q =>
   simp only [Wu,VN]
   congr 1
   obtain ⟨hl,rfl⟩:=Wi.1 hb
   have hqm:∀ y∈BL[n],y∈BL.flatten/\y.i.belt=(n:Int):=λy hy=>⟨Vc.2 ⟨_,Wd hl,hy⟩,X.H.blt n hl y hy⟩
   by_cases e:(JC h x r d).i.belt.toNat=n
   ·rw [if_pos e]
    unfold repQ
    rw [WS,WS]
    refine WU λy hy=>?_
    show (if y.i.seq=(JC h x r d).i.seq then (JC h x r d).i else y.i)=(QbT x (JC h x r d) y).i
    unfold QbT
    by_cases ey:y=x
    ·rw [if_pos ey,if_pos (by rw [ey,hi.1])]
    ·rw [if_neg ey,if_neg]
     rw [hi.1]
     exact λk=>ey (X.H.uniq (hqm y hy).1 hx k)
   ·rw [if_neg e,WS]
    refine WU λy hy=>?_
    show y.i=(QbT x (JC h x r d) y).i
    unfold QbT
    rw [if_neg]
    rintro rfl
    have:=(hqm y hy).2
    rw [hi.2.1,this] at e
    exact e rfl
 ·subst e
  rw [if_pos rfl,if_pos rfl]
  unfold addB
  rw [hi.2.1,show x.i.belt.toNat=0 from by rw [ex];rfl,X.H.bl]
  apply VV
  intro n
  rw [WW,Wg,Wg,WW]
  cases BL[n]? with
  | none=>rfl
  | some q =>
   simp only [Wu,VN]
   split <;> simp
end
section
variable{h:Hp}{BL:List (List Itm)}{kind:Int}{x:Itm}{r d:Nat}
theorem ZX.blen(X:ZX h BL kind x r d):(J3 BL kind x (JC h x r d)).length=BL.length:=by
 unfold J3
 split
 ·rw [US]
 ·rw [Wb]
theorem ZX.slot(X:ZX h BL kind x r d){q:Nat}(hq:JE (szS h.space) (J3 BL kind x (JC h x r d)).flatten q) :
  (JE (szS h.space) BL.flatten q/\wAt (QbU h.space x r d) (q:Int)=wAt h.space (q:Int))\/wAt (QbU h.space x r d) (q:Int)=0:=by
 obtain ⟨y,hy,p,a,b,hp,k,k1,k2,rfl⟩:=hq
 rcases X.cases hy hp with ⟨y',hy',hp',ea⟩ | ⟨rfl,rfl,rfl,rfl⟩
 ·rw [ea k Oo]
  refine .inl ⟨⟨y',hy',p,a,b,hp',k,k1,k2,rfl⟩,?_⟩
  have hY:=X.H.sp.each y' hy'
  have b1:=Itm.posOk X.H.sp.ok hY hp'
  have hg:=hY.lay.get _ hp'
  dsimp only at hg
  have hlt:=Jt X.H.sp.ok.shp hY.inc.ch.lt (p:=p+k) Oo
  exact wAt_opt (X.word hy' (p:=p+k) Oo) hlt
 ·exact .inr (X.new0 k1 Oo)
theorem ZX.slots(X:ZX h BL kind x r d){q:Nat}(hq:JE (szS h.space) BL.flatten q):JE (szS h.space) (J3 BL kind x (JC h x r d)).flatten q:=by
 obtain ⟨y,hy,p,a,b,hp,k,k1,k2,rfl⟩:=hq
 obtain ⟨y',hy',hp',ea⟩:=X.objs hy hp
 exact ⟨y',hy',p,a,b,hp',k,k1,k2,(ea k Oo).symm⟩
theorem ZX.objz(X:ZX h BL kind x r d){a r' d':Nat}(ho:ObjZ (szS h.space) BL.flatten a r' d'):ObjZ (szS h.space) (J3 BL kind x (JC h x r d)).flatten a r' d':=by
 obtain ⟨y,hy,p,hp,rfl⟩:=ho
 obtain ⟨y',hy',hp',ea⟩:=X.objs hy hp
 exact ⟨y',hy',p,hp',by have:=ea 0 Oo;rw [VI] at this;exact this.symm⟩
theorem ZX.refw(X:ZX h BL kind x r d){w:Int}(ho:RefW (szS h.space) BL.flatten w):RefW (szS h.space) (J3 BL kind x (JC h x r d)).flatten w:=by
 rcases ho with k | ⟨k,r',d',ho⟩
 ·exact .inl k
 ·exact .inr ⟨k,r',d',X.objz ho⟩
theorem ZX.new(X:ZX h BL kind x r d):ObjZ (szS h.space) (J3 BL kind x (JC h x r d)).flatten (Qd8 h x.i r d).toNat r d:=by
 rw [X.ats,Wc]
 exact ⟨_,X.mem.2 (.inl rfl),x.i.words.toNat,by rw [X.osI];exact Wh _ (Wl.2 rfl),rfl⟩
theorem ZX.ownf(X:ZX h BL kind x r d){k:Nat}(hk:k < h.space.fs.length)(ho:¬ h.space.fs[k].ow = -1):∃ (h3:k < (QbU h.space x r d).fs.length),(QbU h.space x r d).fs[k].ow=h.space.fs[k].ow/\(QbU h.space x r d).fs[k].st=h.space.fs[k].st:=by
 obtain ⟨y,hy,hky⟩:=X.H.sp.all k hk ho
 obtain ⟨_,h3,e1,e2,_⟩:=X.frame hy hky
 exact ⟨h3,e1,e2⟩
theorem ZX.seqE(X:ZX h BL kind x r d):(QdF h kind x.i r d).seq=if kind=2 then h.seq+1 else h.seq:=by
 show (if kind=2 then w64 (h.seq+1) else h.seq)=_
 have:=X.q
 have:=X.H.sq0
 rw [Qd Oo]
theorem ZX.inv(X:ZX h BL kind x r d):QD (QdF h kind x.i r d) (J3 BL kind x (JC h x r d)):=by
 have es:(QdF h kind x.i r d).space=QbU h.space x r d:=X.space
 have ez:szS (QdF h kind x.i r d).space=szS h.space:=by rw [es];exact X.z
 have hi:=X.i
 have hq:=X.q
 have hq0:=X.H.sq0
 have hsq:=X.seqE
 refine ⟨X.H.cfg,X.belts,X.blen.trans X.H.bn,by rw [es];exact X.sp,λy hy=>?_,?_,?_,λy hy=>?_,?_,X.H.rts,λi hi=>?_,λq hs=>?_,X.H.sok,X.H.sin,λf t q hin=>?_,λq hs hn=>?_,λhc=>?_⟩
 ·rcases X.mem.1 hy with rfl | ⟨k,_⟩
  ·have:=X.it.inc.wd.1
   have:=hi.2.2
   show 1<=(JC h x r d).i.words
   omega
  ·exact X.H.pos y k
 ·intro b hb y hy
  have hbb:b < BL.length:=by rw [<- X.blen];exact hb
  have hget:(J3 BL kind x (JC h x r d))[b]?=some (J3 BL kind x (JC h x r d))[b]:=Wa hb
  generalize hq':(J3 BL kind x (JC h x r d))[b]=q at hy hget
  unfold J3 at hget
  rcases X.how with ⟨e,hx⟩ | ⟨e,ex⟩
  ·rw [if_neg Oo,Wg,Wa hbb,Wu] at hget
   injection hget with hget
   rw [<- hget] at hy
   obtain ⟨z,hz,rfl⟩:=Wj.1 hy
   have:=X.H.blt b hbb z hz
   unfold QbT
   split
   ·rename_i e;rw [hi.2.1,<- e];exact this
   ·exact this
  ·rw [if_pos e,WW,Wa hbb] at hget
   simp only [VN,Wu] at hget
   injection hget with hget
   rw [<- hget] at hy
   split at hy
   ·rename_i e
    rcases Wk.1 hy with hy | hy
    ·exact X.H.blt b hbb y hy
    ·rw [Wl.1 hy,hi.2.1,ex]
     subst e
     rfl
   ·exact X.H.blt b hbb y hy
 ·intro q hqm
  unfold J3 at hqm
  rcases X.how with ⟨e,hx⟩ | ⟨e,ex⟩
  ·rw [if_neg Oo] at hqm
   obtain ⟨p,hp,rfl⟩:=Wj.1 hqm
   rw [Vh]
   have hsw:∀ y,(QbT x (JC h x r d) y).i.seq=y.i.seq:=λy=>by
    unfold QbT
    split
    ·rename_i e;rw [e,hi.1]
    ·rfl
   exact (X.H.asc p hp).imp λk=>by rw [hsw,hsw];exact k
  ·rw [if_pos e] at hqm
   obtain ⟨n,hn⟩:=W6.1 hqm
   rw [WW] at hn
   cases hb:BL[n]? with
   | none=>rw [hb] at hn;cases hn
   | some p =>
    rw [hb] at hn
    simp only [VN,Wu] at hn
    injection hn with hn
    have hpm:=Wp hb
    have hp:=X.H.asc p hpm
    rw [<- hn]
    split
    ·rw [WV]
     refine ⟨hp,UV _ _,λy hy z hz=>?_⟩
     rw [Wl.1 hz,hi.1,ex]
     exact X.H.sq y (Vc.2 ⟨p,hpm,hy⟩)
    ·exact hp
 ·rw [hsq]
  rcases X.mem.1 hy with rfl | ⟨k,_⟩
  ·show (JC h x r d).i.seq < _
   rw [hi.1]
   rcases X.how with ⟨e,hx⟩ | ⟨e,ex⟩
   ·rw [if_neg Oo];exact X.H.sq x hx
   ·rw [if_pos e,ex];show h.seq < h.seq+1;omega
  ·have:=X.H.sq y k
   split <;> omega
 ·rw [hsq]
  split <;> omega
 ·obtain ⟨k1,a,b,k2⟩:=X.H.roots i hi
  rw [ez]
  exact ⟨k1,a,b,X.objz k2⟩
 ·rw [ez] at hs ⊢
  rw [es]
  rcases X.slot hs with ⟨k1,k2⟩ | k
  ·rw [k2];exact X.refw (X.H.refs q k1)
  ·exact .inl k
 ·obtain ⟨k1,k2,ht,k3,k4⟩:=X.H.snd f t q hin
  rw [ez]
  obtain ⟨g1,g2,_⟩:=X.ownf ht k4
  refine ⟨X.slots k1,by rw [es];exact k2,?_⟩
  rw [es]
  exact ⟨g1,k3,by rw [g2];exact k4⟩
 ·rw [ez] at hs
  rw [es] at hn ⊢
  rcases X.slot hs with ⟨k1,k2⟩ | k
  ·have hr:=X.H.refs q k1
   rw [k2] at hn ⊢
   obtain ⟨⟨n1,n2,n3,n4⟩,g1,g2,o1,o2,o3⟩:=hn
   have wl:(QbU h.space x r d).ws.length=h.space.ws.length:=by
    have h1:=X.own.1.shp.wl
    have h2:=X.H.sp.ok.shp.wl
    have h3:(QbU h.space x r d).fs.length=h.space.fs.length:=X.gk.len
    rw [h1,h2,h3,X.z]
   obtain ⟨y,hy,p,a,b,hp,k,j1,j2,e⟩:=k1
   obtain ⟨f1,f2⟩:=ZC X.H.sp.ok (X.H.sp.each y hy) hp (k:=k) Oo (q:=(q:Int)) Oo Oo
   rcases hr with hr | ⟨hr1,a',b',z,hz,p',hp',e'⟩
   ·exact absurd hr n1
   ·obtain ⟨f3,f4⟩:=ZC X.H.sp.ok (X.H.sp.each z hz) hp' (k:=0) Oo (q:=wAt h.space (q:Int) - 1) Oo e'
    obtain ⟨a1,a2,a3,a4,a5⟩:=X.frame hy f1
    obtain ⟨b1,b2,b3,b4,b5⟩:=X.frame hz f3
    exact X.H.cmp q ⟨y,hy,p,a,b,hp,k,j1,j2,e⟩ ⟨⟨n1,by rw [<- wl];exact n2,n3,by rw [<- wl];exact n4⟩,a1,b1,a5,b5,lt_sub o3 b4 a4⟩
  ·exact absurd k hn.1.1
 ·have h1:=X.resv hc
  have hl:=X.gk.len
  have hf:=congrArg List.length X.gk.free
  rw [WY] at hf
  have hrm:=X.room
  rw [es]
  show 2 * ((QX h.space x.i ((1+r+d:Nat):Int)).length - (Qj (QX h.space x.i ((1+r+d:Nat):Int))).length)<=(QX h.space x.i ((1+r+d:Nat):Int)).length
  have hfl:=Qev h.space.fs
  omega
end
theorem QD.cnt{h:Hp}{BL:List (List Itm)}(H:QD h BL)(s:Int)(t:Sts)(b:Bool):QD ⟨h.config,h.space,h.belts,h.seq,h.sets,h.roots,s,t,b⟩ BL:=H.of rfl rfl rfl rfl rfl rfl
theorem rnd_ok{h:Hp}{BL:List (List Itm)}(H:QD h BL)(hq:h.seq+256<=4294967294)(n:Int) :
  ∃ h1 BL1 m k1,Stps h BL m h1 BL1/\m<=Qdj (BL.map List.length)/\QcL h1 BL1 k1/\StopP h1 n k1 (Qcn n 300 h ⟨0,false,0⟩):=by
 have h256:=rndS_256 H
 have:=rnd_steps (n:=n) 300 H (cur_0 H) (by rw [nuR_0];omega) (by rw [nuR_0];omega)
 rw [nuR_0] at this
 exact this
theorem rnd_inv{h:Hp}{BL:List (List Itm)}(H:QD h BL)(hq:h.seq+256<=4294967294)(n:Int) :
  (∃ BL1,QD (Qcn n 300 h ⟨0,false,0⟩).1 BL1)/\(Qcn n 300 h ⟨0,false,0⟩).1.config=h.config/\(Qcn n 300 h ⟨0,false,0⟩).1.dead=h.dead/\h.seq<=(Qcn n 300 h ⟨0,false,0⟩).1.seq/\(Qcn n 300 h ⟨0,false,0⟩).1.seq<=h.seq+256:=by
 have h256:=rndS_256 H
 obtain ⟨h1,BL1,m,k1,s,hm,hk,hs⟩:=rnd_ok H hq n
 have hi:=s.inv H
 have hk:=s.keep
 rcases hs with ⟨e,_⟩ | ⟨e,_⟩
 ·rw [e]
  exact ⟨⟨BL1,hi⟩,hk.1,hk.2.1,hk.2.2.2.1,by have:=hk.2.2.2.2.1;show h1.seq<=_;omega⟩
 ·rw [e]
  exact ⟨⟨BL1,hi.cnt _ _ _⟩,hk.1,hk.2.1,hk.2.2.2.1,by have:=hk.2.2.2.2.1;show h1.seq<=_;omega⟩
theorem for_c{h:Hp}{BL:List (List Itm)}(H:QD h BL)(hq:h.seq+256<=4294967294){n:Int}(hn:1<=n/\n<=1000):QaW h n=some ((Qcn n 300 h ⟨0,false,0⟩).1,!decide ((ZW (Qcn n 300 h ⟨0,false,0⟩).1 n).1=3)):=by
 obtain ⟨⟨BL1,H1⟩,_⟩:=rnd_inv H hq n
 unfold QaW
 rw [round_c H (.inr hn) hq]
 simp only [WZ]
 rw [wants_c H1 hn]
 rfl
def cntH(h:Hp)(s:Int):Hp:=⟨h.config,h.space,h.belts,h.seq,h.sets,h.roots,s,⟨h.stats.allocated,h.stats.objects,w64 (h.stats.collections+1),h.stats.steps,h.stats.rounds,h.stats.condemned,h.stats.copied,h.stats.entries,h.stats.work⟩,h.dead⟩
noncomputable def sncR(h:Hp):Int:=open Classical in if CplP h.config then w64 (h.since+1) else h.since
noncomputable def Qbc(h:Hp)(n:Int):Hp:=open Classical in
 if CplP h.config/\h.config.full<=sncR h then (Qcn 0 300 (cntH h (sncR h)) ⟨0,false,0⟩).1 else (Qcn n 300 (cntH h (sncR h)) ⟨0,false,0⟩).1
theorem col_ok{h:Hp}{BL:List (List Itm)}(H:QD h BL)(hq:h.seq+256<=4294967294)(n:Int) :
  (∃ BL1,QD (Qbc h n) BL1)/\(Qbc h n).config=h.config/\(Qbc h n).dead=h.dead/\h.seq<=(Qbc h n).seq/\(Qbc h n).seq<=h.seq+256:=by
 have H1:QD (cntH h (sncR h)) BL:=H.cnt _ _ _
 unfold Qbc
 split
 ·exact rnd_inv H1 hq 0
 ·exact rnd_inv H1 hq n
noncomputable def ddH(h:Hp):Hp:=⟨h.config,h.space,h.belts,h.seq,h.sets,h.roots,h.since,h.stats,true⟩
noncomputable def Qcy(h:Hp)(r d:Int):Hp×Int×Int :=
  if h.dead=true then (hp0,0,19)
  else if (QcE r d).2=0 then
    (if (ZW h (1+r+d)).1=3 then
      (if (ZW (Qbc h (1+r+d)) (1+r+d)).1=3 then (ddH (Qbc h (1+r+d)),0,18)
       else (QdF (Qbc h (1+r+d)) (ZW (Qbc h (1+r+d)) (1+r+d)).1 (ZW (Qbc h (1+r+d)) (1+r+d)).2 r d,Qd8 (Qbc h (1+r+d)) (ZW (Qbc h (1+r+d)) (1+r+d)).2 r d,0))
     else (QdF h (ZW h (1+r+d)).1 (ZW h (1+r+d)).2 r d,Qd8 h (ZW h (1+r+d)).2 r d,0))
  else (hp0,0,(QcE r d).2)
abbrev AlcT:=ByteArray×List Rul×Int×Int×List Int×List Fe×List (List Inc)×Int×List Qe×List Bool×List Int×Int×Int×Int×Int×Int×Int×Int×Int×Int×Int×Bool×Int×Inc
def mkA(h:Hp)(k:Int)(i:Inc):AlcT:=(h.config.name,h.config.rules,h.config.full,h.space.sh,h.space.ws,h.space.fs,h.belts,h.seq,h.sets,h.roots.used,h.roots.refs,h.since,h.stats.allocated,h.stats.objects,h.stats.collections,h.stats.steps,h.stats.rounds,h.stats.condemned,h.stats.copied,h.stats.entries,h.stats.work,h.dead,k,i)
section
variable{h:Hp}{BL:List (List Itm)}{kind:Int}{x:Itm}{r d:Nat}
theorem ZX.grow(X:ZX h BL kind x r d):Xa h.space x.i ((1+r+d:Nat):Int)=some (grw h.space x.i ((1+r+d:Nat):Int),Qd8 h x.i r d,0,QX h.space x.i ((1+r+d:Nat):Int)):=by
 rw [grow_spec X.H.sp.ok X.it.inc ⟨Oo,by have:=X.r15;have:=X.d32;omega⟩,if_pos X.room,X.ats]
 rfl
theorem ZX.hd(X:ZX h BL kind x r d):Qc5 (r:Int) d:=by
 have:=X.r15
 have:=X.d32
 unfold Qc5
 omega
theorem ZX.make(X:ZX h BL kind x r d):XP ⟨h.space.sh,h.space.ws,QX h.space x.i ((1+r+d:Nat):Int)⟩ (Qd8 h x.i r d) r d=some (0,(putS h x.i r d).ws):=by
 have hr:=X.room'
 have hgk:=X.gk
 have hg:=(go_adr hgk.sp.shp hgk.inc.toIncC.ch hgk.inc.toIncC.own (p:=x.i.words.toNat) (k:=r+d) (by show _ < (JC h x r d).fr.length * szS h.space;omega)).trans (if_pos (show x.i.words.toNat+(r+d) < (JC h x r d).fr.length * szS h.space by omega))
 have hlt:=Jt X.own.1.shp X.own.2.2.inc.ch.lt (p:=x.i.words.toNat) (by rw [X.z];omega)
 have hsm:=X.own.1.shp.small
 have hm:MkE ⟨h.space.sh,h.space.ws,QX h.space x.i ((1+r+d:Nat):Int)⟩ (Qd8 h x.i r d) r d=0:=by
  unfold MkE
  rw [if_pos X.hd,X.ats,show ((r:Int)+d)=((r+d:Nat):Int) by push_cast;rfl]
  exact congrArg Prod.snd hg
 rw [make_c hgk.sp.shp hgk.sp.nxIn (by rw [X.ats];rw [X.z] at hlt;unfold I64;omega),if_pos hm]
 unfold putS
 rw [X.cast]
theorem ZX.add(X:ZX h BL kind x r d)(e:kind=2):Z9 h.belts (grw h.space x.i ((1+r+d:Nat):Int))=some (addB h.belts (grw h.space x.i ((1+r+d:Nat):Int)),0):=by
 have hi:=X.i
 have hb0:=X.H.b0
 rcases X.how with ⟨e1,_⟩ | ⟨_,ex⟩
 ·omega
 have hbelt:(grw h.space x.i ((1+r+d:Nat):Int)).belt=0:=hi.2.1.trans (by rw [ex])
 refine add11_c X.H.bsz (by rw [hbelt];omega) λy hy=>?_
 obtain ⟨z,hz,e1,_⟩:=X.H.yng hy
 have:=X.H.sq z hz
 show y.seq < (JC h x r d).i.seq
 rw [hi.1,ex,<- e1]
 exact this
theorem ZX.rep(X:ZX h BL kind x r d)(e:¬ kind=2):QR h.belts (grw h.space x.i ((1+r+d:Nat):Int))=some (repB h.belts (grw h.space x.i ((1+r+d:Nat):Int)),0):=by
 have hi:=X.i
 rcases X.how with ⟨_,hx⟩ | ⟨e1,ex⟩
 ·obtain ⟨q,hq,hxq⟩:=Vc.1 hx
  obtain ⟨b,hb,rfl⟩:=Um hq
  have hbelt:=X.H.blt b hb x hxq
  have hgb:(grw h.space x.i ((1+r+d:Nat):Int)).belt=(b:Int):=hi.2.1.trans hbelt
  have hget:h.belts[b]?=some (BL[b].map Itm.i):=by rw [X.H.bl,Wg,Wa hb];rfl
  obtain ⟨hl,hge⟩:=Wi.1 hget
  refine Qd5 X.H.bsz (by rw [hgb];omega) (by rw [hgb];exact hl) ?_ ?_
  ·have:=(X.H.asc _ (Wd hb)).imp λ{a b:Itm} (h:a.i.seq < b.i.seq)=>(Int.ne_of_lt h)
   simp only [hgb,Wc]
   rw [hge,Vh]
   exact this
  ·refine ⟨x.i,?_,hi.1.symm⟩
   simp only [hgb,Wc]
   rw [hge]
   exact WT hxq
 ·exact absurd e1 e
end
set_option maxHeartbeats 1000000 in
theorem alloc_c{h:Hp}{BL:List (List Itm)}(H:QD h BL)(hq:h.seq+257<=4294967294)(p1 p2:Int):X2 h p1 p2=some (Qcy h p1 p2):=by
  refine Gd.eq ?_
  unfold X2
  refine .ite (λhd=>.some (by unfold Qcy;rw [if_pos hd])) λhd=>?_
  refine .call (live_c p1 p2) ?_
  refine .ite (λhl=>?_) λhl=>.some (by unfold Qcy;rw [if_neg hd,if_neg hl])
  have hok:Qc5 p1 p2:=by
    have hl:(QcE p1 p2).2=0:=hl
    unfold QcE at hl
    split at hl
    · assumption
    · cases hl
  have hok':=hok
  unfold Qc5 at hok'
  obtain ⟨r,rfl⟩:∃ r:Nat,p1=r:=⟨p1.toNat,Oo⟩
  obtain ⟨d,rfl⟩:∃ d:Nat,p2=d:=⟨p2.toNat,Oo⟩
  have hr:r<=15:=by omega
  have hdd:d<=32:=by omega
  have en:w64 (w64 (1+(r:Int))+d)=((1+r+d:Nat):Int):=by
    rw [Qd (n:=1+(r:Int)) Oo,Qd Oo];push_cast;rfl
  have en2:(1+(r:Int)+d)=((1+r+d:Nat):Int):=by push_cast;rfl
  have hn:1<=((1+r+d:Nat):Int)/\((1+r+d:Nat):Int)<=1000:=by omega
  rw [en]
  refine .call (QaP H) ?_
  refine .call (plan_c H hn) ?_
  have hal:Qcy h r d=if (ZW h ((1+r+d:Nat):Int)).1=3 then
      (if (ZW (Qbc h ((1+r+d:Nat):Int)) ((1+r+d:Nat):Int)).1=3 then (ddH (Qbc h ((1+r+d:Nat):Int)),0,18)
       else (QdF (Qbc h ((1+r+d:Nat):Int)) (ZW (Qbc h ((1+r+d:Nat):Int)) ((1+r+d:Nat):Int)).1 (ZW (Qbc h ((1+r+d:Nat):Int)) ((1+r+d:Nat):Int)).2 r d,Qd8 (Qbc h ((1+r+d:Nat):Int)) (ZW (Qbc h ((1+r+d:Nat):Int)) ((1+r+d:Nat):Int)).2 r d,0))
     else (QdF h (ZW h ((1+r+d:Nat):Int)).1 (ZW h ((1+r+d:Nat):Int)).2 r d,Qd8 h (ZW h ((1+r+d:Nat):Int)).2 r d,0):=by
    have hl:(QcE (r:Int) d).2=0:=hl
    unfold Qcy
    rw [if_neg hd,if_pos hl,en2]
  have tail:∀ (h':Hp),(∃ BL1,QD h' BL1)->h'.seq<=h.seq+256->(ZW h ((1+r+d:Nat):Int)).1=3->Qbc h ((1+r+d:Nat):Int)=h' ->
      Gd (λ(z:AlcT ⊕ (Hp×Int×Int))=>(∃ h1 BL1 k x1,z = .inl (mkA h1 k x1.i)/\ZX h1 BL1 k x1 r d/\Qcy h r d=(QdF h1 k x1.i r d,Qd8 h1 x1.i r d,0))\/z = .inr (Qcy h r d))
        ((QA h'.config h'.space h'.belts h'.seq ((1+r+d:Nat):Int)).bind λv19 =>
          if v19.1=3 then (some (.inr (ddH h',0,18))) else some (.inl (mkA h' v19.1 v19.2))):=by
    intro h' ⟨BL1,H1⟩ hs h3 e
    refine .call (plan_c H1 hn) ?_
    rw [if_pos h3,e] at hal
    refine .ite (λk=>.some (.inr (by rw [hal,if_pos k]))) λk=>?_
    obtain ⟨x1,e1,X⟩:=plan_x H1 hr hdd Oo (k:=(ZW h' ((1+r+d:Nat):Int)).1) (i:=(ZW h' ((1+r+d:Nat):Int)).2) rfl k
    refine .some (.inl ⟨h',BL1,_,x1,by rw [e1],X,by rw [hal,if_neg k,e1]⟩)
  obtain ⟨c1,c2,c3,c4,c5⟩:=col_ok H Oo ((1+r+d:Nat):Int)
  refine Gd.bndR (P:=λ(z:AlcT ⊕ (Hp×Int×Int))=>(∃ h1 BL1 k x1,z = .inl (mkA h1 k x1.i)/\ZX h1 BL1 k x1 r d/\Qcy h r d=(QdF h1 k x1.i r d,Qd8 h1 x1.i r d,0))\/z = .inr (Qcy h r d)) ?_ (λb hP=>?_) (λr' hP=>?_)
  · refine .ite (λh3=>?_) λh3=>?_
    · have h3:(ZW h ((1+r+d:Nat):Int)).1=3:=h3
      refine .call (QbN H.cfg) ?_
      by_cases hc:CplP h.config
      · have es:sncR h=w64 (h.since+1):=by unfold sncR;rw [if_pos hc]
        refine .pos (Qc3 hc) (.call (QbN H.cfg) (.pos (Qc3 hc) (.ite (λhf=>?_) λhf=>?_)))
        · have ec:Qbc h ((1+r+d:Nat):Int)=(Qcn 0 300 (cntH h (sncR h)) ⟨0,false,0⟩).1:=by unfold Qbc;rw [if_pos ⟨hc,by rw [es];exact hf⟩]
          rw [full2_eq]
          have:=full_c (H.cnt (w64 (h.since+1)) ⟨h.stats.allocated,h.stats.objects,w64 (h.stats.collections+1),h.stats.steps,h.stats.rounds,h.stats.condemned,h.stats.copied,h.stats.entries,h.stats.work⟩ h.dead) (by show h.seq+256<=_;omega)
          refine .call this (tail _ ?_ ?_ h3 ?_)
          · rw [es] at ec;rw [ec] at c1;exact c1
          · rw [es] at ec;rw [ec] at c5;exact c5
          · rw [es] at ec;exact ec
        · have ec:Qbc h ((1+r+d:Nat):Int)=(Qcn ((1+r+d:Nat):Int) 300 (cntH h (sncR h)) ⟨0,false,0⟩).1:=by unfold Qbc;rw [if_neg λk=>hf (by have:=k.2;rw [es] at this;exact this)]
          rw [for2_eq]
          have:=for_c (H.cnt (w64 (h.since+1)) ⟨h.stats.allocated,h.stats.objects,w64 (h.stats.collections+1),h.stats.steps,h.stats.rounds,h.stats.condemned,h.stats.copied,h.stats.entries,h.stats.work⟩ h.dead) (by show h.seq+256<=_;omega) hn
          refine .call this (tail _ ?_ ?_ h3 ?_)
          · rw [es] at ec;rw [ec] at c1;exact c1
          · rw [es] at ec;rw [ec] at c5;exact c5
          · rw [es] at ec;exact ec
      · have es:sncR h=h.since:=by unfold sncR;rw [if_neg hc]
        have ec:Qbc h ((1+r+d:Nat):Int)=(Qcn ((1+r+d:Nat):Int) 300 (cntH h h.since) ⟨0,false,0⟩).1:=by unfold Qbc;rw [if_neg λk=>hc k.1,es]
        refine .neg (by rw [ZI];exact hc) (.call (QbN H.cfg) (.neg (by rw [ZI];exact hc) ?_))
        rw [for2_eq]
        have:=for_c (H.cnt h.since ⟨h.stats.allocated,h.stats.objects,w64 (h.stats.collections+1),h.stats.steps,h.stats.rounds,h.stats.condemned,h.stats.copied,h.stats.entries,h.stats.work⟩ h.dead) (by show h.seq+256<=_;omega) hn
        refine .call this (tail _ ?_ ?_ h3 ec)
        · rw [ec] at c1;exact c1
        · rw [ec] at c5;exact c5
    · have h3:¬ (ZW h ((1+r+d:Nat):Int)).1=3:=h3
      obtain ⟨x1,e1,X⟩:=plan_x H hr hdd Oo (k:=(ZW h ((1+r+d:Nat):Int)).1) (i:=(ZW h ((1+r+d:Nat):Int)).2) rfl h3
      refine .some (.inl ⟨h,BL,_,x1,by rw [e1];rfl,X,by rw [hal,if_neg h3,e1]⟩)
  · rcases hP with ⟨h1,BL1,k,x1,e,X,ha⟩ | hP
    · injection e with e
      subst e
      rw [ha]
      refine .call X.grow (.pos X.gk.len (.pos rfl ?_))
      refine .call X.make (.pos (by rw [X.space];show (QbU h1.space x1 r d).ws.length=_;exact QdO _ _ _ _) ?_)
      refine .ite (λk2=>?_) λk2=>?_
      · have k2:k=2:=k2
        refine .call (X.add k2) (.some ?_)
        unfold QdF
        rw [if_pos k2,if_pos k2,en2]
        rfl
      · have k2:¬ k=2:=k2
        refine .call (X.rep k2) (.some ?_)
        unfold QdF
        rw [if_neg k2,if_neg k2,en2]
        rfl
    · cases hP
  · rcases hP with ⟨h1,BL1,k,x1,e,_⟩ | hP
    · cases e
    · injection hP with hP
theorem wAt_q(s:Sp)(q:Nat):wAt s (q:Int)=(s.ws[q]?).getD 0:=by
 by_cases h:q < s.ws.length
 ·rw [Xy (Wa h),Wa h];rfl
 ·rw [Wf Oo]
  unfold wAt
  rw [dif_neg (by rw [Wc];exact λk=>h k.2)];rfl
theorem QD.hands{h:Hp}{BL:List (List Itm)}(H:QD h BL){R:Rts}(r1:Qar R)(r2:∀ i∈Q7 R,1<=Qr R i/\∃ r d,ObjZ (szS h.space) BL.flatten (Qr R i - 1).toNat r d)(s:Int)(t:Sts)(b:Bool):QD ⟨h.config,h.space,h.belts,h.seq,h.sets,R,s,t,b⟩ BL:=by
 obtain ⟨a1,a2,a3,a4,a5,a6,a7,a8,a9,b1,b2,b3,b4,b5,b6,b7,b8⟩:=H
 exact ⟨a1,a2,a3,a4,a5,a6,a7,a8,a9,r1,r2,b3,b4,b5,b6,b7,b8⟩
def takR(R:Rts)(i:Nat)(w:Int):Rts:=⟨R.used.set i true,R.refs.set i w⟩
def drpR(R:Rts)(i:Nat):Rts:=⟨R.used.set i false,R.refs.set i 0⟩
theorem refAt_set{us:List Bool}{rs:List Int}{i j:Nat}{w:Int}:Qr ⟨us,rs.set i w⟩ j=if i=j/\i < rs.length then w else (rs[j]?).getD 0:=by
 unfold Qr
 rw [V6]
 by_cases e:i=j
 ·rw [if_pos e]
  by_cases hl:i < rs.length
  ·rw [if_pos hl,if_pos ⟨e,hl⟩];rfl
  ·rw [if_neg hl,if_neg λk=>hl k.2,Wf Oo]
 ·rw [if_neg e,if_neg λk=>e k.1]
theorem tak_ok{R:Rts}(h:Qar R){i:Nat}{w:Int}(hi:i < 32)(hw:U64 w):Qar (takR R i w):=by
 have h1:=h.u
 have h2:=h.v
 refine ⟨by unfold takR;rw [Ww];exact h1,by unfold takR;rw [Ww];exact h2,λj hj hj'=>?_,λx hx=>?_⟩
 ·have hj:j < (R.used.set i true).length:=hj
  have hj':j < (R.refs.set i w).length:=hj'
  show (R.used.set i true)[j]=false->(R.refs.set i w)[j]=0
  rw [Uc,Uc]
  intro k
  split at k
  ·cases k
  ·rename_i hne
   rw [if_neg hne]
   exact h.z j (by rw [Ww] at hj;exact hj) (by rw [Ww] at hj';exact hj') k
 ·rcases WR hx with k | k
  ·exact h.w x k
  ·rw [k];exact hw
theorem drp_ok{R:Rts}(h:Qar R){i:Nat}(hi:i < 32):Qar (drpR R i):=by
 have h1:=h.u
 have h2:=h.v
 refine ⟨by unfold drpR;rw [Ww];exact h1,by unfold drpR;rw [Ww];exact h2,λj hj hj'=>?_,λx hx=>?_⟩
 ·have hj:j < (R.used.set i false).length:=hj
  have hj':j < (R.refs.set i 0).length:=hj'
  show (R.used.set i false)[j]=false->(R.refs.set i 0)[j]=0
  rw [Uc,Uc]
  intro k
  split at k
  ·rename_i he
   rw [if_pos he]
  ·rename_i hne
   rw [if_neg hne]
   exact h.z j (by rw [Ww] at hj;exact hj) (by rw [Ww] at hj';exact hj') k
 ·rcases WR hx with k | k
  ·exact h.w x k
  ·rw [k];unfold U64;omega
theorem tak_live{R:Rts}(h:Qar R){i j:Nat}{w:Int}(hi:i < 32):j∈Q7 (takR R i w)<->j=i\/j∈Q7 R:=by
 have h1:=h.u
 rw [Zf,Zf]
 unfold takR
 dsimp only
 rw [V6]
 by_cases e:i=j
 ·rw [if_pos e,if_pos Oo];simp [e]
 ·rw [if_neg e]
  exact ⟨.inr,λk=>k.elim (λq=>absurd q.symm e) id⟩
theorem drp_live{R:Rts}(h:Qar R){i j:Nat}(hi:i < 32):j∈Q7 (drpR R i)<->j≠i/\j∈Q7 R:=by
 have h1:=h.u
 rw [Zf,Zf]
 unfold drpR
 dsimp only
 rw [V6]
 by_cases e:i=j
 ·rw [if_pos e,if_pos Oo];simp [e]
 ·rw [if_neg e]
  exact ⟨λk=>⟨λq=>e q.symm,k⟩,λk=>k.2⟩
theorem tak_ref{R:Rts}(h:Qar R){i j:Nat}{w:Int}(hi:i < 32):Qr (takR R i w) j=if j=i then w else Qr R j:=by
 have h2:=h.v
 unfold takR
 rw [refAt_set]
 by_cases e:j=i
 ·rw [if_pos e,if_pos ⟨e.symm,Oo⟩]
 ·rw [if_neg e,if_neg λk=>e k.1.symm];rfl
theorem drp_ref{R:Rts}{i j:Nat}(e:j≠i):Qr (drpR R i) j=Qr R j:=by
 unfold drpR
 rw [refAt_set,if_neg λk=>e k.1.symm];rfl
theorem QD.take{h:Hp}{BL:List (List Itm)}(H:QD h BL){i:Nat}(hi:i < 32){w:Int}(hw:1<=w)(hu:U64 w){r d:Nat}(ho:ObjZ (szS h.space) BL.flatten (w - 1).toNat r d)(s:Int)(t:Sts)(b:Bool):QD ⟨h.config,h.space,h.belts,h.seq,h.sets,takR h.roots i w,s,t,b⟩ BL:=by
 refine H.hands (tak_ok H.rts hi hu) (λj hj=>?_) s t b
 rw [tak_ref H.rts hi]
 by_cases e:j=i
 ·rw [if_pos e];exact ⟨hw,r,d,ho⟩
 ·rw [if_neg e]
  exact H.roots j (((tak_live H.rts hi).1 hj).resolve_left e)
theorem QD.dropH{h:Hp}{BL:List (List Itm)}(H:QD h BL){i:Nat}(hi:i < 32)(s:Int)(t:Sts)(b:Bool):QD ⟨h.config,h.space,h.belts,h.seq,h.sets,drpR h.roots i,s,t,b⟩ BL:=by
 refine H.hands (drp_ok H.rts hi) (λj hj=>?_) s t b
 obtain ⟨k1,k2⟩:=(drp_live H.rts hi).1 hj
 rw [drp_ref k1]
 exact H.roots j k2
structure FldX(h:Hp)(BL:List (List Itm))(x:Itm)(p r d k:Nat):Prop where
 H:QD h BL
 hx:x∈BL.flatten
 hp:(p,r,d)∈obs 0 x.os
 k1:1<=k
 k2:k<=r+d
section
variable{h:Hp}{BL:List (List Itm)}{x:Itm}{p r d k:Nat}
def Qdf(s:Sp)(x:Itm)(p k:Nat)(w:Int):Sp:=⟨s.sh,s.ws.set (adr (szS s) x.fr (p+k)) w,s.fs⟩
theorem FldX.lt(X:FldX h BL x p r d k):adr (szS h.space) x.fr (p+k) < h.space.ws.length:=by
 have hX:=X.H.sp.each x X.hx
 have b1:=Itm.posOk X.H.sp.ok hX X.hp
 have:=X.k2
 exact Jt X.H.sp.ok.shp hX.inc.ch.lt (p:=p+k) Oo
theorem FldX.sp(X:FldX h BL x p r d k){w:Int}(hw:U64 w):Qa7 (Qdf h.space x p k w) BL.flatten:=by
 have hX:=X.H.sp.each x X.hx
 have hlt:=X.lt
 have hok:XA (Qdf h.space x p k w):=by
  refine sp_ws X.H.sp.ok (by rw [Ww]) λj hj ho a h1 h2 e=>?_
  rw [Uc]
  by_cases ea:adr (szS h.space) x.fr (p+k)=a
  ·have hf:=(ZC X.H.sp.ok hX X.hp (k:=k) X.k2 (q:=(a:Int)) Oo (by rw [Wc,ea])).1
   have hfe:Jf h.space (a:Int)=j:=by unfold Jf;rw [Wc];exact e
   rw [hfe] at hf
   exact absurd ho (hX.inc.toIncC.own j hf hj)
  ·rw [if_neg ea]
 refine ⟨hok,⟨λy hy=>?_,X.H.sp.w.2⟩,λy hy=>?_,X.H.sp.seqs,X.H.sp.all⟩
 ·rcases WR hy with q | q
  ·exact X.H.sp.w.1 y q
  ·rw [q];exact hw
 ·have hY:=X.H.sp.each y hy
  have hi:=hY.inc
  refine ⟨{ hi.toIncC with wd:=?_,len:=hi.len },?_⟩
  ·have:=hi.wd
   show 0<=y.i.words/\y.i.words<=((h.space.ws.set _ w).length:Int)
   rw [Ww];exact this
  ·refine Lay.heads (z:=szS h.space) (ws:=h.space.ws) hY.lay λo ho=>?_
   show (h.space.ws.set (adr (szS h.space) x.fr (p+k)) w)[adr (szS h.space) y.fr o.1]?=_
   have hne:adr (szS h.space) x.fr (p+k)≠adr (szS h.space) y.fr o.1:=λe=>by
    have:=obj_inj X.H X.hx hy X.hp (p':=o.1) (r':=o.2.1) (d':=o.2.2) (k':=0) ho X.k2 Oo e
    have:=X.k1
    omega
   rw [WA hne]
   exact (hY.lay.get o ho).2.2.2.2
theorem FldX.wne(X:FldX h BL x p r d k){w:Int}{q:Nat}(hq:q≠adr (szS h.space) x.fr (p+k)):wAt (Qdf h.space x p k w) (q:Int)=wAt h.space (q:Int):=by
 rw [wAt_q,wAt_q]
 unfold Qdf
 dsimp only
 rw [WA hq.symm]
theorem FldX.weq(X:FldX h BL x p r d k){w:Int}:wAt (Qdf h.space x p k w) ((adr (szS h.space) x.fr (p+k):Nat):Int)=w:=by
 rw [wAt_q]
 unfold Qdf
 dsimp only
 rw [WB X.lt];rfl
theorem FldX.nslot(X:FldX h BL x p r d k)(hk:r < k){q:Nat}(hq:JE (szS h.space) BL.flatten q):q≠adr (szS h.space) x.fr (p+k):=by
 obtain ⟨y,hy,p',r',d',hp',k',j1,j2,rfl⟩:=hq
 intro e
 have:=obj_inj X.H hy X.hx hp' X.hp Oo X.k2 e
 omega
theorem FldX.slot(X:FldX h BL x p r d k)(hk:k<=r):JE (szS h.space) BL.flatten (adr (szS h.space) x.fr (p+k)):=⟨x,X.hx,p,r,d,X.hp,k,X.k1,hk,rfl⟩
theorem fldS_need{s:Sp}{x:Itm}{p k:Nat}{w q v:Int}:Qa8 (Qdf s x p k w) q v<->Qa8 s q v:=by
 unfold Qa8 Qdf
 dsimp only
 rw [Ww]
 exact Iff.rfl
theorem FldX.data(X:FldX h BL x p r d k)(hk:r < k){w:Int}(hw:U64 w)(s:Int)(t:Sts)(b:Bool):QD ⟨h.config,Qdf h.space x p k w,h.belts,h.seq,h.sets,h.roots,s,t,b⟩ BL:=by
 have hsp:=X.sp hw
 have hw':∀ q,JE (szS h.space) BL.flatten q->wAt (Qdf h.space x p k w) (q:Int)=wAt h.space (q:Int):=λq hq=>X.wne (X.nslot hk hq)
 obtain ⟨a1,a2,a3,a4,a5,a6,a7,a8,a9,b1,b2,b3,b4,b5,b6,b7,b8⟩:=X.H
 refine ⟨a1,a2,a3,hsp,a5,a6,a7,a8,a9,b1,b2,λq hq=>?_,b4,b5,b6,λq hq hn=>?_,b8⟩
 ·have hq:JE (szS h.space) BL.flatten q:=hq
  show RefW _ _ (wAt (Qdf h.space x p k w) (q:Int))
  rw [hw' q hq];exact b3 q hq
 ·have hq:JE (szS h.space) BL.flatten q:=hq
  have hn:Qa8 (Qdf h.space x p k w) (q:Int) (wAt (Qdf h.space x p k w) (q:Int)):=hn
  show InS h.sets (Jf h.space (q:Int):Int) (Jf h.space (wAt (Qdf h.space x p k w) (q:Int) - 1):Int) (q:Int)
  rw [hw' q hq] at hn ⊢
  exact b7 q hq (fldS_need.1 hn)
noncomputable def refH(h:Hp)(x:Itm)(p k:Nat)(w:Int):Hp:=⟨h.config,Qdf h.space x p k w,h.belts,h.seq,Qec (Qdf h.space x p k w) h.sets ((adr (szS h.space) x.fr (p+k):Nat):Int) w,h.roots,h.since,h.stats,h.dead⟩
theorem FldX.ref(X:FldX h BL x p r d k)(hk:k<=r){w:Int}(hw:U64 w)(hr:RefW (szS h.space) BL.flatten w):QD (refH h x p k w) BL:=by
 have hsp:=X.sp hw
 have hs0:=X.slot hk
 have hX:=X.H.sp.each x X.hx
 obtain ⟨n1,n2,n3⟩:=noteK_ok hsp.ok X.H.sok X.H.sin ((adr (szS h.space) x.fr (p+k):Nat):Int) w
 have hw':∀ q:Nat,wAt (Qdf h.space x p k w) (q:Int)=if (q:Nat)=adr (szS h.space) x.fr (p+k) then w else wAt h.space (q:Int):=λq=>by
  split
  ·rename_i e;rw [e];exact X.weq
  ·rename_i e;exact X.wne e
 have hH:=X.H
 obtain ⟨a1,a2,a3,a4,a5,a6,a7,a8,a9,b1,b2,b3,b4,b5,b6,b7,b8⟩:=X.H
 refine ⟨a1,a2,a3,hsp,a5,a6,a7,a8,a9,b1,b2,λq hq=>?_,n1,n2,λf t q hi=>?_,λq hq hn=>?_,b8⟩
 ·have hq:JE (szS h.space) BL.flatten q:=hq
  show RefW _ _ (wAt (Qdf h.space x p k w) (q:Int))
  rw [hw' q]
  split
  ·exact hr
  ·exact b3 q hq
 ·rcases (n3 f t q).1 hi with hi | ⟨hn,rfl,rfl,rfl⟩
  ·exact b6 f t q hi
  ·refine ⟨by rw [Wc];exact hs0,rfl,?_⟩
   rcases hr with hr | ⟨hr1,r',d',ho⟩
   ·exact absurd hr hn.1.1
   ·obtain ⟨g1,g2⟩:=obj_owned hH.sp ho (q:=w - 1) Oo rfl
    obtain ⟨w1,w2⟩:=fs_at (show ((Jf (Qdf h.space x p k w) (w - 1):Nat):Int).toNat=Jf h.space (w - 1) from by rw [Wc];rfl) g1 g2
    exact ⟨w1,Oo,w2⟩
 ·have hq:JE (szS h.space) BL.flatten q:=hq
  have hn:Qa8 (Qdf h.space x p k w) (q:Int) (wAt (Qdf h.space x p k w) (q:Int)):=hn
  show InS (Qec (Qdf h.space x p k w) h.sets ((adr (szS h.space) x.fr (p+k):Nat):Int) w) (Jf h.space (q:Int):Int) (Jf h.space (wAt (Qdf h.space x p k w) (q:Int) - 1):Int) (q:Int)
  by_cases e:q=adr (szS h.space) x.fr (p+k)
  ·have ew:wAt (Qdf h.space x p k w) (q:Int)=w:=by rw [e];exact X.weq
   rw [ew] at hn ⊢
   refine (n3 _ _ _).2 (.inr ⟨by rw [e] at hn;exact hn,by rw [e];rfl,rfl,by rw [e]⟩)
  ·have ew:=X.wne (w:=w) e
   rw [ew] at hn ⊢
   exact (n3 _ _ _).2 (.inl (b7 q hq (fldS_need.1 hn)))
end
theorem valid20_c{R:Rts}(h:Qar R):Xl R=some true:=by
 have h1:=h.u
 have h2:=h.v
 refine Gd.eq ?_
 unfold Xl
 refine .pos Oo (.pos Oo ?_)
 refine Gd.bndR (P:=λz=>z = .inl ()) ?_ (λ_ hP=>.some rfl) (λr hP=>by cases hP)
 refine Gd.find R.used (λ_=>False) Oo (λi hi hn=>?_) (λ_=>rfl)
 refine .atN hi (.ite (λk=>.some (.inl ⟨id,rfl⟩)) λk=>?_)
 have k:¬ R.used[i]=true:=k
 have hz:=h.z i hi Oo (by simpa using k)
 refine .atN Oo (.pos hz (.some (.inl ⟨id,rfl⟩)))
def frsI(R:Rts):Option Nat:=(List.range R.used.length).find? λi=>R.used[i]? == some false
def takE(R:Rts)(w:Int):Rts×Int×Int:=match frsI R with
 | some i=>(takR R i w,((i+1:Nat):Int),0)
 | none=>(⟨[],[]⟩,0,15)
theorem take20_c{R:Rts}(h:Qar R)(w:Int):XH R w=some (takE R w):=by
 have h1:=h.u
 have h2:=h.v
 refine Gd.eq ?_
 unfold XH
 refine .call (valid20_c h) (.pos rfl ?_)
 refine Gd.bndR (P:=λz=>(z = .inl ()/\frsI R=none)\/z = .inr (takE R w)) ?_ (λ_ hP=>?_) (λr hP=>?_)
 ·refine Gd.find R.used (λx=>x=false) Oo (λi hi hn=>?_) (λhn=>.inl ⟨rfl,?_⟩)
  ·refine .atN hi (.ite (λk=>.some (.inl ⟨by simp [show R.used[i]=true from k],rfl⟩)) λk=>?_)
   have k:¬ R.used[i]=true:=k
   have k2:R.used[i]=false:=by simpa using k
   refine .call (copy20_c Oo Oo) (.atN hi (.atN Oo (.some (.inr ⟨k2,_,rfl,.inr ?_⟩))))
   have e:frsI R=some i:=by
    unfold frsI
    rw [Yy]
    refine ⟨by simp [Wa hi,k2],WC.2 hi,λj hj=>?_⟩
    have:=hn j Oo hj
    simp [Wa (show j < R.used.length by omega),this]
   unfold takE takR
   rw [e,Qd Oo,Wc]
   rfl
  ·unfold frsI
   rw [UQ]
   intro i hi
   rw [WC] at hi
   have:=hn _ (Wd hi)
   simp [Wa hi,this]
 ·rcases hP with ⟨_,hP⟩ | hP
  ·refine .some ?_
   unfold takE
   rw [hP]
  ·cases hP
 ·rcases hP with ⟨hP,_⟩ | hP
  ·cases hP
  ·injection hP with hP
theorem frsI_some{R:Rts}(h:Qar R)(hf:¬ (Q7 R).length=32):∃ i,frsI R=some i/\i < 32/\R.used[i]?=some false:=by
 have h1:=h.u
 cases e:frsI R with
 | none =>
  exfalso
  apply hf
  unfold frsI at e
  rw [UQ] at e
  have:Q7 R=List.range R.used.length:=by
   unfold Q7
   rw [VM]
   intro i hi
   have h2:=e i hi
   rw [WC] at hi
   rw [Wa hi] at h2 ⊢
   cases hb:R.used[i] with
   | true=>rfl
   | false=>rw [hb] at h2;exact absurd rfl h2
  rw [this,WM,h1]
 | some i =>
  unfold frsI at e
  have h2:=List.find?_some e
  have h3:=WC.1 (VZ e)
  exact ⟨i,rfl,Oo,by simpa using h2⟩
theorem full28_c{h:Hp}(hr:Qar h.roots):XG h=some (decide ((Q7 h.roots).length=32)):=by
 have h1:=hr.u
 unfold XG
 rw [live20_c h.roots Oo]
 simp only [WZ,Wb]
 congr 1
 rw [decide_eq_decide]
 omega
def QdP(R:Rts)(a:Int)(nz:Bool):Int:=if a=0 then (if nz=true then 16 else 0) else if a < 0\/32 < a then 14 else if R.used[(a - 1).toNat]?=some true then 0 else 14
theorem QbM{h:Hp}(hr:Qar h.roots)(a:Int)(nz:Bool):Q2 h a nz=some (QdP h.roots a nz):=by
 have h1:=hr.u
 refine Gd.eq ?_
 unfold Q2 QdP
 refine .ite (λh0=>?_) λh0=>?_
 ·rw [if_pos h0]
  exact .ite (λk=>.some (by rw [if_pos k])) λk=>.some (by rw [if_neg k])
 ·rw [if_neg h0]
  refine .ite (λk=>.some (by rw [if_pos (.inl k)])) λk1=>.ite (λk=>.some (by rw [if_pos (.inr k)])) λk2=>?_
  rw [if_neg Oo,Qd Oo]
  obtain ⟨i,rfl⟩:∃ i:Nat,a=((i+1:Nat):Int):=⟨(a - 1).toNat,Oo⟩
  have hi:i < h.roots.used.length:=by omega
  rw [show ((i+1:Nat):Int) - 1=(i:Int) by omega,Wc,Wa hi]
  refine .atN hi (.ite (λk=>.some (by rw [if_pos (by rw [show h.roots.used[i]=true from k])])) λk=>.some (by rw [if_neg (by simpa using k)]))
theorem hdlE_0{R:Rts}{a:Int}{nz:Bool}(h:QdP R a nz=0):(a=0/\nz=false)\/∃ i:Nat,a=((i+1:Nat):Int)/\i < 32/\i∈Q7 R:=by
 unfold QdP at h
 split at h
 ·rename_i e
  split at h
  ·cases h
  ·rename_i k;exact .inl ⟨e,by simpa using k⟩
 ·split at h
  ·cases h
  ·split at h
   ·rename_i k
    exact .inr ⟨(a - 1).toNat,Oo,Oo,Zf.2 k⟩
   ·cases h
def Qcm(R:Rts)(a:Int):Int:=if a=0 then 0 else Qr R (a - 1).toNat
theorem Qco{h:Hp}(hr:Qar h.roots){a:Int}(ha:0<=a/\a<=32):Qz h a=some (Qcm h.roots a):=by
 have h1:=hr.v
 refine Gd.eq ?_
 unfold Qz Qcm
 refine .ite (λh0=>.some (by rw [if_pos h0])) λh0=>?_
 rw [if_neg h0,Qd Oo]
 obtain ⟨i,rfl⟩:∃ i:Nat,a=((i+1:Nat):Int):=⟨(a - 1).toNat,Oo⟩
 have hi:i < h.roots.refs.length:=by omega
 rw [show ((i+1:Nat):Int) - 1=(i:Int) by omega,Wc]
 refine .atN hi (.some ?_)
 unfold Qr
 rw [Wa hi];rfl
theorem drop20_c{R:Rts}(h:Qar R){i:Nat}(hi:i < 32)(hl:i∈Q7 R):Jx R ((i+1:Nat):Int)=some (drpR R i,0):=by
 have h1:=h.u
 have h2:=h.v
 have hu:=Zf.1 hl
 rw [Wa Oo] at hu
 injection hu with hu
 have hf:X3 R ((i+1:Nat):Int)=some 0:=by
  refine Gd.eq ?_
  unfold X3
  refine .call (valid20_c h) (.pos rfl (.neg Oo (.neg Oo ?_)))
  rw [Qd Oo,show ((i+1:Nat):Int) - 1=(i:Int) by omega]
  exact .atN Oo (.pos hu (.some rfl))
 refine Gd.eq ?_
 unfold Jx
 refine .call hf (.pos rfl (.call (copy20_c Oo Oo) ?_))
 rw [Qd Oo,show ((i+1:Nat):Int) - 1=(i:Int) by omega]
 exact .atN Oo (.atN Oo (.some rfl))
theorem obs_len':∀ (l:List (Nat×Nat)) (p:Nat),(obs p l).length=l.length
 | [],p=>rfl
 | (r,d) :: l,p=>congrArg (·+1) (obs_len' l _)
theorem Lay.len'{z:Nat}{ws:List Int}{fr:List Nat}:∀ {l:List (Nat×Nat)} {p q:Nat},Lay z ws fr p l q->p+l.length<=q
 | [],p,q,h=>by have:p=q:=h;simp;omega
 | (r,d) :: l,p,q,h=>by
  obtain ⟨h1,h2,h3,h4⟩:=h
  have:=h4.len'
  rw [WP]
  omega
section
variable{h:Hp}{BL:List (List Itm)}
theorem is_c(H:QD h BL){a:Int}(h0:0<=a){r d:Nat}(ho:ObjZ (szS h.space) BL.flatten a.toNat r d):JR h a=some true:=by
 obtain ⟨x,hx,p,hp,e⟩:=ho
 have hX:=H.sp.each x hx
 obtain ⟨f1,f2⟩:=ZC H.sp.ok hX hp (k:=0) Oo h0 e
 have hfl:=hX.inc.ch.lt _ f1
 have hg:=(XC H.sp.ok.shp.sh)
 refine Gd.eq ?_
 unfold JR
 refine .neg Oo (.neg Oo (.pos (wu_u _).1 ?_))
 rw [shr_k H.sp.ok.shp.sh a.toNat Oo]
 have hfl:a.toNat / szS h.space < h.space.fs.length:=hfl
 refine .atN (i:=a.toNat / szS h.space) hfl ?_
 have how:(h.space.fs[a.toNat / szS h.space]'hfl).ow=x.i.seq:=(hX.inc.toIncC.ow _ hfl).2 f1
 rw [how]
 refine .call (find11_c H.bsz _) ?_
 have hfd:=find_uniq H.dist (x:=x.i) (by rw [H.flat];exact WT hx)
 rw [hfd]
 refine .pos rfl ?_
 refine .call (all_spec H.sp.ok H.sp.w hX) ?_
 refine Gd.bndR (P:=λz=>z = .inr true) ?_ (λ_ hP=>by cases hP) (λr hP=>by injection hP with hP)
 have hm:a∈adrs h.space x:=by
  unfold adrs
  exact Wj.2 ⟨(p,r,d),hp,by dsimp only;omega⟩
 have hlen:(adrs h.space x).length<=16384:=by
  unfold adrs
  rw [Wb,obs_len']
  have h1:=hX.lay.len'
  have h2:=hX.inc.wd
  have h3:=XT H.sp.ok
  omega
 refine Gd.find (adrs h.space x) (λy=>y=a) Oo (λi hi hn=>?_) (λhn=>absurd rfl (hn a hm))
 exact .atN hi (.ite (λk=>.some (.inr ⟨k,_,rfl,rfl⟩)) λk=>.some (.inl ⟨k,rfl⟩))
end
theorem rnd_keep{h:Hp}{BL:List (List Itm)}(H:QD h BL)(hq:h.seq+256<=4294967294)(n:Int) :
  (Qcn n 300 h ⟨0,false,0⟩).1.roots.used=h.roots.used/\(Qcn n 300 h ⟨0,false,0⟩).1.space.sh=h.space.sh/\(Qcn n 300 h ⟨0,false,0⟩).1.space.ws.length=h.space.ws.length:=by
 obtain ⟨h1,BL1,m,k1,s,hm,hk,hs⟩:=rnd_ok H hq n
 have hk:=s.keep
 rcases hs with ⟨e,_⟩ | ⟨e,_⟩ <;> (rw [e];exact ⟨hk.2.2.2.2.2.1,hk.2.2.2.2.2.2.1,hk.2.2.2.2.2.2.2.1⟩)
theorem col_keep{h:Hp}{BL:List (List Itm)}(H:QD h BL)(hq:h.seq+256<=4294967294)(n:Int) :
  (Qbc h n).roots.used=h.roots.used/\(Qbc h n).space.sh=h.space.sh/\(Qbc h n).space.ws.length=h.space.ws.length:=by
 have H1:QD (cntH h (sncR h)) BL:=H.cnt _ _ _
 unfold Qbc
 split
 ·exact rnd_keep H1 hq 0
 ·exact rnd_keep H1 hq n
theorem alc_spec{h:Hp}{BL:List (List Itm)}(H:QD h BL)(hq:h.seq+257<=4294967294)(hd:¬ h.dead=true){p1 p2:Int}(hl:(QcE p1 p2).2=0) :
  (Qcy h p1 p2=(ddH (Qbc h (1+p1+p2)),0,18)) \/
   ∃ r d:Nat,p1=r/\p2=d/\∃ h1 BL1 k x1,ZX h1 BL1 k x1 r d/\Qcy h p1 p2=(QdF h1 k x1.i r d,Qd8 h1 x1.i r d,0)/\(h1=h\/h1=Qbc h (1+p1+p2)):=by
 have hok:Qc5 p1 p2:=by
  unfold QcE at hl
  split at hl
  ·assumption
  ·cases hl
 unfold Qc5 at hok
 obtain ⟨r,rfl⟩:∃ r:Nat,p1=r:=⟨p1.toNat,Oo⟩
 obtain ⟨d,rfl⟩:∃ d:Nat,p2=d:=⟨p2.toNat,Oo⟩
 have en2:(1+(r:Int)+d)=((1+r+d:Nat):Int):=by push_cast;rfl
 obtain ⟨⟨BL1,c1⟩,c2,c3,c4,c5⟩:=col_ok H Oo ((1+r+d:Nat):Int)
 unfold Qcy
 rw [if_neg hd,if_pos hl,en2]
 by_cases h3:(ZW h ((1+r+d:Nat):Int)).1=3
 ·rw [if_pos h3]
  by_cases h4:(ZW (Qbc h ((1+r+d:Nat):Int)) ((1+r+d:Nat):Int)).1=3
  ·rw [if_pos h4];exact .inl rfl
  ·rw [if_neg h4]
   obtain ⟨x1,e1,X⟩:=plan_x c1 (r:=r) (d:=d) Oo Oo Oo (k:=(ZW (Qbc h ((1+r+d:Nat):Int)) ((1+r+d:Nat):Int)).1) (i:=(ZW (Qbc h ((1+r+d:Nat):Int)) ((1+r+d:Nat):Int)).2) rfl h4
   exact .inr ⟨r,d,rfl,rfl,_,BL1,_,x1,X,by rw [e1],.inr rfl⟩
 ·rw [if_neg h3]
  obtain ⟨x1,e1,X⟩:=plan_x H (r:=r) (d:=d) Oo Oo Oo (k:=(ZW h ((1+r+d:Nat):Int)).1) (i:=(ZW h ((1+r+d:Nat):Int)).2) rfl h3
  exact .inr ⟨r,d,rfl,rfl,_,BL,_,x1,X,by rw [e1],.inl rfl⟩
theorem ZX.word1{h:Hp}{BL:List (List Itm)}{kind:Int}{x:Itm}{r d:Nat}(X:ZX h BL kind x r d):0<=Qd8 h x.i r d/\Qd8 h x.i r d < 16384:=by
 have hr:=X.room'
 have hlt:=Jt X.own.1.shp X.own.2.2.inc.ch.lt (p:=x.i.words.toNat) (by rw [X.z];omega)
 have:=X.own.1.shp.small
 rw [X.ats]
 rw [X.z] at hlt
 have hlt:adr (szS h.space) (JC h x r d).fr x.i.words.toNat < (QbU h.space x r d).ws.length:=hlt
 omega
noncomputable def alcD(h:Hp)(r d:Int):Hp×Ans :=
  if (QcE r d).2=0 then
    (if (Q7 h.roots).length=32 then (h,⟨15,0⟩)
     else if (Qcy h r d).2.2=0 then
       (⟨(Qcy h r d).1.config,(Qcy h r d).1.space,(Qcy h r d).1.belts,(Qcy h r d).1.seq,(Qcy h r d).1.sets,(takE (Qcy h r d).1.roots ((Qcy h r d).2.1+1)).1,(Qcy h r d).1.since,(Qcy h r d).1.stats,(Qcy h r d).1.dead⟩,⟨0,(takE (Qcy h r d).1.roots ((Qcy h r d).2.1+1)).2.1⟩)
     else ((Qcy h r d).1,⟨(Qcy h r d).2.2,0⟩))
  else (h,⟨(QcE r d).2,0⟩)
theorem takE_rng(R:Rts)(hu:R.used.length=32)(w:Int):0<=(takE R w).2.1/\(takE R w).2.1<=32:=by
 unfold takE
 cases e:frsI R with
 | none=>exact ⟨Vk _,by show (0:Int)<=32;omega⟩
 | some i =>
  have:=WC.1 (VZ e)
  show 0<=((i+1:Nat):Int)/\((i+1:Nat):Int)<=32
  omega
theorem alcD_c{h:Hp}{BL:List (List Itm)}(H:QD h BL)(hq:h.seq+257<=4294967294)(hd:¬ h.dead=true)(o:AOp):X1 h o=some (alcD h o.a o.b):=by
 refine Gd.eq ?_
 unfold X1 alcD
 refine .call (live_c _ _) ?_
 refine .ite (λhl=>?_) λhl=>?_
 ·have hl:(QcE o.a o.b).2=0:=hl
  rw [if_pos hl]
  refine .call (full28_c H.rts) ?_
  refine .ite (λhf=>?_) λhf=>?_
  ·rw [if_pos (of_decide_eq_true hf)];exact .some rfl
  ·rw [if_neg (λk=>hf (decide_eq_true k))]
   refine .call (alloc_c H hq _ _) ?_
   refine .ite (λh0=>?_) λh0=>?_
   ·have h0:(Qcy h o.a o.b).2.2=0:=h0
    rw [if_pos h0]
    rcases alc_spec H hq hd hl with e | ⟨r,d,e1,e2,h1,BL1,k,x1,X,e,_⟩
    ·rw [e] at h0;cases h0
    ·have hr:=X.inv.rts
     have hw:=X.word1
     rw [e]
     dsimp only
     rw [Qd Oo,Jd Oo]
     refine .call (take20_c hr _) ?_
     have:=takE_rng (QdF h1 k x1.i r d).roots hr.u (Qd8 h1 x1.i r d+1)
     refine .some ?_
     rw [Jd Oo]
   ·have h0:¬ (Qcy h o.a o.b).2.2=0:=h0
    rw [if_neg h0]
    exact .some rfl
 ·have hl:¬ (QcE o.a o.b).2=0:=hl
  rw [if_neg hl]
  exact .some rfl
structure OpOut(h:Hp)(r:Hp×Ans):Prop where
 inv:∃ BL,QD r.1 BL
 cfg:r.1.config=h.config
 ded:r.1.dead=h.dead
 lo:h.seq<=r.1.seq
 hi:r.1.seq<=h.seq+257
theorem OpOut.same{h:Hp}{BL:List (List Itm)}(H:QD h BL)(a:Ans):OpOut h (h,a):=⟨⟨BL,H⟩,rfl,rfl,Vk _,by show h.seq<=h.seq+257;omega⟩
theorem alcD_ok{h:Hp}{BL:List (List Itm)}(H:QD h BL)(hq:h.seq+257<=4294967294)(hd:¬ h.dead=true)(p1 p2:Int):(alcD h p1 p2).2.err=18\/OpOut h (alcD h p1 p2):=by
 unfold alcD
 split
 ·rename_i hl
  split
  ·exact .inr (.same H _)
  ·rename_i hf
   rcases alc_spec H hq hd hl with e | ⟨r,d,e1,e2,h1,BL1,k,x1,X,e,hh⟩
   ·rw [e,if_neg (by show ¬ (18:Int)=0;omega)]
    exact .inl rfl
   ·right
    rw [e,if_pos rfl]
    dsimp only
    have hI:=X.inv
    have hw:=X.word1
    have hk:(QdF h1 k x1.i r d).config=h.config/\(QdF h1 k x1.i r d).dead=h.dead/\(QdF h1 k x1.i r d).roots.used=h.roots.used/\h.seq<=h1.seq/\h1.seq<=h.seq+256:=by
     rcases hh with rfl | rfl
     ·exact ⟨rfl,rfl,rfl,Vk _,Oo⟩
     ·obtain ⟨_,c2,c3,c4,c5⟩:=col_ok H Oo (1+p1+p2)
      exact ⟨c2,c3,(col_keep H Oo (1+p1+p2)).1,c4,c5⟩
    have hlen:¬ (Q7 (QdF h1 k x1.i r d).roots).length=32:=by
     unfold Q7
     rw [hk.2.2.1]
     exact hf
    obtain ⟨i,ei,hi,_⟩:=frsI_some hI.rts hlen
    have et:(takE (QdF h1 k x1.i r d).roots (Qd8 h1 x1.i r d+1)).1=takR (QdF h1 k x1.i r d).roots i (Qd8 h1 x1.i r d+1):=by
     unfold takE
     rw [ei]
    have hs:=X.seqE
    refine ⟨⟨J3 BL1 k x1 (JC h1 x1 r d),?_⟩,hk.1,hk.2.1,?_,?_⟩
    ·rw [et]
     have ez:szS (QdF h1 k x1.i r d).space=szS h1.space:=by show szS (putS h1 x1.i r d)=_;rw [X.space];exact X.z
     exact hI.take hi (w:=Qd8 h1 x1.i r d+1) Oo (by unfold U64;omega) (r:=r) (d:=d) (by rw [ez,show Qd8 h1 x1.i r d+1 - 1=Qd8 h1 x1.i r d by omega];exact X.new) _ _ _
    ·show h.seq<=(QdF h1 k x1.i r d).seq
     rw [hs];split <;> omega
    ·show (QdF h1 k x1.i r d).seq<=_
     rw [hs];split <;> omega
 ·exact .inr (.same H _)
section
variable{h:Hp}{BL:List (List Itm)}
structure Qak(h:Hp)(BL:List (List Itm))(i:Nat)(x:Itm)(p r d:Nat):Prop where
 H:QD h BL
 hi:i∈Q7 h.roots
 hx:x∈BL.flatten
 hp:(p,r,d)∈obs 0 x.os
 e:Qr h.roots i=((adr (szS h.space) x.fr p:Nat):Int)+1
theorem root_x(H:QD h BL){i:Nat}(hi:i∈Q7 h.roots):∃ x p r d,Qak h BL i x p r d:=by
 obtain ⟨h1,r,d,x,hx,p,hp,e⟩:=H.roots i hi
 exact ⟨x,p,r,d,H,hi,hx,hp,Oo⟩
section
variable{i:Nat}{x:Itm}{p r d:Nat}
theorem Qak.i32(X:Qak h BL i x p r d):i < 32:=by
 have h1:=X.H.rts.u
 obtain ⟨h2,_⟩:=Wi.1 (Zf.1 X.hi)
 omega
theorem Qak.pos(X:Qak h BL i x p r d):p+r+d < x.fr.length * szS h.space/\r<=15/\d<=32/\h.space.ws[adr (szS h.space) x.fr p]?=some (hdW r d):=Itm.posOk X.H.sp.ok (X.H.sp.each x X.hx) X.hp
theorem Qak.lt(X:Qak h BL i x p r d):adr (szS h.space) x.fr p < h.space.ws.length/\h.space.ws.length<=16384 :=
 ⟨Jt X.H.sp.ok.shp (X.H.sp.each x X.hx).inc.ch.lt (p:=p) (by have:=X.pos;omega),XT X.H.sp.ok⟩
theorem Qak.look(X:Qak h BL i x p r d):QN h.space (Qr h.roots i - 1)=⟨r,d,0⟩:=by
 have hX:=X.H.sp.each x X.hx
 obtain ⟨b1,b2,b3,b4⟩:=X.pos
 rw [X.e,show ((adr (szS h.space) x.fr p:Nat):Int)+1 - 1=((adr (szS h.space) x.fr p:Nat):Int) by omega]
 exact (Qej X.H.sp.ok hX.inc.ch hX.inc.own b1 b2 b3 b4).1
theorem Qak.obj(X:Qak h BL i x p r d):0<=Qr h.roots i - 1/\ObjZ (szS h.space) BL.flatten (Qr h.roots i - 1).toNat r d:=by
 rw [X.e]
 exact ⟨Oo,x,X.hx,p,X.hp,Oo⟩
def fldK(r:Nat)(b:Int)(ref:Bool):Nat:=if ref then 1+b.toNat else 1+r+b.toNat
theorem Qak.plc(X:Qak h BL i x p r d)(b:Int)(ref:Bool):PlcR h.space (Qr h.roots i - 1) b ref=if b < 0\/(if ref then (r:Int) else d)<=b then (0,17) else (((adr (szS h.space) x.fr (p+fldK r b ref):Nat):Int),0):=by
 have hX:=X.H.sp.each x X.hx
 obtain ⟨b1,b2,b3,b4⟩:=X.pos
 unfold PlcR
 rw [X.look,if_neg Os]
 unfold FnR FbR
 dsimp only
 by_cases hb:b < 0\/(if ref=true then (r:Int) else d)<=b
 ·rw [if_pos hb,if_pos hb]
 ·rw [if_neg hb,if_neg hb]
  have hk:p+fldK r b ref < x.fr.length * szS h.space:=by
   unfold fldK
   cases ref <;> simp at hb ⊢ <;> omega
  have hc:((if ref=true then (1:Int) else 1+(r:Int))+b)=(fldK r b ref:Int):=by
   unfold fldK
   cases ref <;> simp at hb ⊢ <;> omega
  rw [hc,X.e,show ((adr (szS h.space) x.fr p:Nat):Int)+1 - 1=((adr (szS h.space) x.fr p:Nat):Int) by omega,go_adr X.H.sp.ok.shp hX.inc.ch hX.inc.own (p:=p) Oo,if_pos hk]
theorem Qak.place(X:Qak h BL i x p r d)(hd:¬ h.dead=true){b:Int}(hb:I64 b)(ref:Bool):Xk h (Qr h.roots i - 1) b ref=some (PlcR h.space (Qr h.roots i - 1) b ref):=by
 have hl:=X.lt
 have e:=X.e
 refine Gd.eq ?_
 unfold Xk
 refine .neg hd (.call (is_c X.H X.obj.1 X.obj.2) (.pos rfl ?_))
 exact .call (place_c X.H.sp.ok.shp (Z1 X.H.sp.ok.fm) X.H.sp.w (by unfold I64;omega) hb ref) (.some rfl)
theorem Qak.fld(X:Qak h BL i x p r d){b:Int}{ref:Bool}(hb:¬ (b < 0\/(if ref then (r:Int) else d)<=b)):FldX h BL x p r d (fldK r b ref):=by
 refine ⟨X.H,X.hx,X.hp,?_,?_⟩ <;> (unfold fldK;cases ref <;> simp at hb ⊢ <;> omega)
end
theorem wrd_ref(H:QD h BL){a:Int}(ha:QdP h.roots a false=0):U64 (Qcm h.roots a)/\RefW (szS h.space) BL.flatten (Qcm h.roots a)/\Qcm h.roots a<=h.space.ws.length/\0<=a/\a<=32:=by
 rcases hdlE_0 ha with ⟨rfl,_⟩ | ⟨i,rfl,hi,hl⟩
 ·unfold Qcm
  rw [if_pos rfl]
  exact ⟨by unfold U64;omega,.inl rfl,Oo,Oo,Oo⟩
 ·obtain ⟨x,p,r,d,X⟩:=root_x H hl
  have:=X.lt
  have e:=X.e
  unfold Qcm
  rw [if_neg Oo,show ((i+1:Nat):Int) - 1=(i:Int) by omega,Wc]
  exact ⟨by unfold U64;omega,.inr ⟨Oo,r,d,X.obj.2⟩,Oo,Oo,Oo⟩
theorem wrd_i(i:Nat)(R:Rts):Qcm R ((i+1:Nat):Int)=Qr R i:=by
 unfold Qcm
 rw [if_neg Oo,show ((i+1:Nat):Int) - 1=(i:Int) by omega,Wc]
def setW1(s:Sp)(q:Nat)(w:Int):Sp:=⟨s.sh,s.ws.set q w,s.fs⟩
def datH(h:Hp)(q w:Int):Hp:=⟨h.config,setW1 h.space q.toNat w,h.belts,h.seq,h.sets,h.roots,h.since,h.stats,h.dead⟩
noncomputable def rfwH(h:Hp)(q w:Int):Hp:=⟨h.config,setW1 h.space q.toNat w,h.belts,h.seq,Qec (setW1 h.space q.toNat w) h.sets q w,h.roots,h.since,h.stats,h.dead⟩
theorem Qak.wref{i:Nat}{x:Itm}{p r d:Nat}(X:Qak h BL i x p r d)(hd:¬ h.dead=true){b:Int}(hb:I64 b)(hp:(PlcR h.space (Qr h.roots i - 1) b true).2=0){c:Int}(hc:QdP h.roots c false=0) :
  ZK h (Qr h.roots i - 1) b (Qcm h.roots c)=some (rfwH h (PlcR h.space (Qr h.roots i - 1) b true).1 (Qcm h.roots c),0)/\QD (rfwH h (PlcR h.space (Qr h.roots i - 1) b true).1 (Qcm h.roots c)) BL:=by
 obtain ⟨w1,w2,w3,w4,w5⟩:=wrd_ref X.H hc
 have hws:=XT X.H.sp.ok
 have hpl:=X.plc b true
 have hbb:¬ (b < 0\/(if true then (r:Int) else d)<=b):=λk=>by rw [hpl,if_pos k] at hp;cases hp
 have F:=X.fld hbb
 have hkr:fldK r b true<=r:=by unfold fldK;simp at hbb ⊢;omega
 rw [if_neg hbb] at hpl
 have hI:=F.ref hkr w1 w2
 have hlt:=F.lt
 have eH:rfwH h (PlcR h.space (Qr h.roots i - 1) b true).1 (Qcm h.roots c)=refH h x p (fldK r b true) (Qcm h.roots c):=by
  unfold rfwH refH Qdf setW1
  rw [hpl,Wc]
 refine ⟨Gd.eq ?_,by rw [eH];exact hI⟩
 unfold ZK
 refine .call (X.place hd hb true) ?_
 refine .neg (by rw [hp];omega) ?_
 refine Gd.bind (P:=λz=>z=0) ?_ λz hz=>?_
 ·refine .ite (λk=>.some hp) λk=>.neg (by rw [Jd Oo];omega) ?_
  have k:¬ Qcm h.roots c=0:=k
  rcases w2 with w2 | ⟨w2,r',d',ho⟩
  ·exact absurd w2 k
  ·rw [Jd Oo,Qd Oo]
   exact .call (is_c X.H Oo ho) (.pos rfl (.some hp))
 ·subst hz
  refine .pos rfl (.call (QaP X.H) ?_)
  have hsp:=F.sp w1
  have hno:=note19_c hsp.ok X.H.sok (X.H.sok.sz X.H.sin) (p:=((adr (szS h.space) x.fr (p+fldK r b true):Nat):Int)) w1
  rw [hpl]
  refine .atN hlt ?_
  rw [Wc]
  refine .call hno (.some ?_)
  unfold rfwH Qdf setW1
  rw [Wc]
theorem Qak.wdat{i:Nat}{x:Itm}{p r d:Nat}(X:Qak h BL i x p r d)(hd:¬ h.dead=true){b:Int}(hb:I64 b)(hp:(PlcR h.space (Qr h.roots i - 1) b false).2=0){w:Int}(hw:U64 w) :
  Zt h (Qr h.roots i - 1) b w=some (datH h (PlcR h.space (Qr h.roots i - 1) b false).1 w,0)/\QD (datH h (PlcR h.space (Qr h.roots i - 1) b false).1 w) BL:=by
 have hpl:=X.plc b false
 have hbb:¬ (b < 0\/(if false then (r:Int) else d)<=b):=λk=>by rw [hpl,if_pos k] at hp;cases hp
 have F:=X.fld hbb
 have hkr:r < fldK r b false:=by unfold fldK;simp at hbb ⊢;omega
 rw [if_neg hbb] at hpl
 have hI:=F.data hkr hw h.since h.stats h.dead
 have hlt:=F.lt
 refine ⟨Gd.eq ?_,?_⟩
 ·unfold Zt
  refine .call (X.place hd hb false) (.pos hp (.call (QaP X.H) ?_))
  unfold datH setW1
  rw [hpl]
  refine .atN hlt (.some rfl)
 ·unfold datH setW1
  rw [hpl]
  exact hI
end
def rtsH(h:Hp)(R:Rts):Hp:=⟨h.config,h.space,h.belts,h.seq,h.sets,R,h.since,h.stats,h.dead⟩
noncomputable def plcD(h:Hp)(o:AOp):Int×Int:=PlcR h.space (Qcm h.roots o.a - 1) o.b (decide (o.code=2\/o.code=3))
noncomputable def fldD(h:Hp)(o:AOp):Hp×Ans :=
  if (plcD h o).2=0 then
    (if o.code=4 then (h,⟨0,wAt h.space (plcD h o).1⟩)
     else if o.code=2 then
       (if wAt h.space (plcD h o).1=0 then (h,⟨0,0⟩)
        else if (Q7 h.roots).length=32 then (h,⟨15,0⟩)
        else (rtsH h (takE h.roots (wAt h.space (plcD h o).1)).1,⟨0,(takE h.roots (wAt h.space (plcD h o).1)).2.1⟩))
     else if o.code=3 then
       (if QdP h.roots o.c_ false=0 then (rfwH h (plcD h o).1 (Qcm h.roots o.c_),⟨0,0⟩) else (h,⟨QdP h.roots o.c_ false,0⟩))
     else (datH h (plcD h o).1 (wu o.c_),⟨0,0⟩))
  else (h,⟨(plcD h o).2,0⟩)
noncomputable def doR(h:Hp)(o:AOp):Hp×Ans :=
  if o.code < 1\/10 < o.code then (h,⟨if h.dead=true/\¬ o.code=0 then 19 else 20,0⟩)
  else if h.dead=true then (h,⟨19,0⟩)
  else if o.code=1 then alcD h o.a o.b
  else if o.code=8 then ((Qcn 0 300 (cntH h h.since) ⟨0,false,0⟩).1,⟨0,0⟩)
  else if o.code=10 then (h,⟨0,wu (sumW h.belts.flatten)⟩)
  else if o.code=6 then
    (if QdP h.roots o.a false=0 then
      (if QdP h.roots o.b false=0 then (h,⟨0,if Qcm h.roots o.a=Qcm h.roots o.b then 1 else 0⟩) else (h,⟨QdP h.roots o.b false,0⟩))
     else (h,⟨QdP h.roots o.a false,0⟩))
  else if QdP h.roots o.a true=0 then
    (if o.code=7 then (rtsH h (drpR h.roots (o.a - 1).toNat),⟨0,0⟩)
     else if o.code=9 then (h,⟨0,wu (256 * (QN h.space (Qcm h.roots o.a - 1)).r+(QN h.space (Qcm h.roots o.a - 1)).d)⟩)
     else fldD h o)
  else (h,⟨QdP h.roots o.a true,0⟩)
structure OpI(o:AOp):Prop where
 b:I64 o.b
section
variable{h:Hp}{BL:List (List Itm)}
theorem fld_c(H:QD h BL)(hd:¬ h.dead=true){o:AOp}(ho:OpI o)(ha:QdP h.roots o.a true=0)(hc:o.code=2\/o.code=3\/o.code=4\/o.code=5):XZ h o=some (fldD h o):=by
 obtain ⟨i,ei,hi,hl⟩:∃ i:Nat,o.a=((i+1:Nat):Int)/\i < 32/\i∈Q7 h.roots:=by
  rcases hdlE_0 ha with ⟨_,k⟩ | k
  ·cases k
  ·exact k
 obtain ⟨x,p,r,d,X⟩:=root_x H hl
 have e1:Qcm h.roots o.a=Qr h.roots i:=by rw [ei];exact wrd_i i _
 have hlt:=X.lt
 have hX:=H.sp.each x X.hx
 have eX:=X.e
 have hw:Qz h o.a=some (Qr h.roots i):=by rw [Qco H.rts Oo,e1]
 have hw1:w64 (w64 (Qr h.roots i) - 1)=Qr h.roots i - 1:=by rw [Qd (n:=Qr h.roots i) Oo,Qd Oo]
 have hpc:=λref=>place_c H.sp.ok.shp (Z1 H.sp.ok.fm) H.sp.w (a:=Qr h.roots i - 1) (by unfold I64;omega) ho.b ref
 have hat:∀ ref,(PlcR h.space (Qr h.roots i - 1) o.b ref).2=0->∃ q:Nat,(PlcR h.space (Qr h.roots i - 1) o.b ref).1=(q:Int)/\q < h.space.ws.length:=λref h0=>by
  have hpl:=X.plc o.b ref
  have hbb:¬ (o.b < 0\/(if ref then (r:Int) else d)<=o.b):=λk=>by rw [hpl,if_pos k] at h0;cases h0
  rw [if_neg hbb] at hpl
  exact ⟨_,by rw [hpl],(X.fld hbb).lt⟩
 refine Gd.eq ?_
 unfold XZ fldD plcD
 rw [e1]
 refine .ite (λk2=>?_) λk2=>?_
 ·have k2:o.code=2:=k2
  have eb:decide (o.code=2\/o.code=3)=true:=decide_eq_true (.inl k2)
  rw [eb]
  refine .call hw ?_
  rw [hw1]
  refine .call (hpc true) ?_
  refine .ite (λh0=>?_) λh0=>?_
  ·have h0:(PlcR h.space (Qr h.roots i - 1) o.b true).2=0:=h0
   obtain ⟨q,eq,hq⟩:=hat true h0
   rw [if_pos h0,if_neg Oo,if_pos k2,eq]
   rw [Xy (Wa hq)]
   refine .atN hq (.neg Oo ?_)
   refine .ite (λk=>.some (by rw [if_pos k])) λk=>?_
   rw [if_neg k]
   refine .call (full28_c H.rts) (.ite (λhf=>.some (by rw [if_pos (of_decide_eq_true hf)])) λhf=>?_)
   rw [if_neg (λk=>hf (decide_eq_true k))]
   refine .call (QaP H) (.call (take20_c H.rts _) (.some ?_))
   have:=takE_rng h.roots H.rts.u h.space.ws[q]
   rw [Jd Oo]
   rfl
  ·have h0:¬ (PlcR h.space (Qr h.roots i - 1) o.b true).2=0:=h0
   rw [if_neg h0]
   exact .some rfl
 ·have k2:¬ o.code=2:=k2
  have eb:decide (o.code=2\/o.code=3)=decide (o.code=3):=by rw [decide_eq_decide];exact ⟨λk=>k.resolve_left k2,.inr⟩
  rw [eb]
  refine .call hw ?_
  rw [hw1]
  refine .call (hpc _) ?_
  refine .ite (λh0=>?_) λh0=>?_
  ·have h0:(PlcR h.space (Qr h.roots i - 1) o.b (decide (o.code=3))).2=0:=h0
   obtain ⟨q,eq,hq⟩:=hat _ h0
   rw [if_pos h0,eq]
   refine .atN hq (.ite (λk4=>?_) λk4=>?_)
   ·rw [if_pos k4,Xy (Wa hq)]
    exact .some rfl
   ·rw [if_neg k4,if_neg k2]
    refine .ite (λk3=>?_) λk3=>?_
    ·have k3:o.code=3:=k3
     rw [if_pos k3]
     rw [decide_eq_true k3] at h0 eq
     refine .call (QbM H.rts _ _) (.ite (λhh=>?_) λhh=>?_)
     ·have hh:QdP h.roots o.c_ false=0:=hh
      rw [if_pos hh]
      obtain ⟨w1,w2,w3,w4,w5⟩:=wrd_ref H hh
      refine .call hw (.call (Qco H.rts ⟨w4,w5⟩) ?_)
      rw [hw1]
      refine .call (X.wref hd ho.b h0 hh).1 (.some ?_)
      rw [eq]
     ·have hh:¬ QdP h.roots o.c_ false=0:=hh
      rw [if_neg hh]
      exact .some rfl
    ·have k3:¬ o.code=3:=k3
     rw [if_neg k3]
     rw [decide_eq_false k3] at h0 eq
     refine .call hw ?_
     rw [hw1]
     refine .call (X.wdat hd ho.b h0 (wu_u _)).1 (.some ?_)
     rw [eq]
  ·have h0:¬ (PlcR h.space (Qr h.roots i - 1) o.b (decide (o.code=3))).2=0:=h0
   rw [if_neg h0]
   exact .some rfl
end
section
variable{h:Hp}{BL:List (List Itm)}
theorem hdl_i{R:Rts}{a:Int}(ha:QdP R a true=0):∃ i:Nat,a=((i+1:Nat):Int)/\i < 32/\i∈Q7 R:=by
 rcases hdlE_0 ha with ⟨_,k⟩ | k
 ·cases k
 ·exact k
theorem collect_c(H:QD h BL)(hq:h.seq+256<=4294967294)(hd:¬ h.dead=true):Z4 h=some ((Qcn 0 300 (cntH h h.since) ⟨0,false,0⟩).1,(Qcn 0 300 (cntH h h.since) ⟨0,false,0⟩).2,0):=by
 refine Gd.eq ?_
 unfold Z4
 refine .neg hd ?_
 have:=full_c (H.cnt h.since ⟨h.stats.allocated,h.stats.objects,w64 (h.stats.collections+1),h.stats.steps,h.stats.rounds,h.stats.condemned,h.stats.copied,h.stats.entries,h.stats.work⟩ h.dead) (by show h.seq+256<=_;omega)
 exact .call this (.some rfl)
set_option maxHeartbeats 1000000 in
theorem do28_c(H:QD h BL)(hq:h.seq+257<=4294967294){o:AOp}(ho:OpI o):Qat h o=some (doR h o):=by
 refine Gd.eq ?_
 unfold Qat doR
 have no:∀ e,Qp h e=some (h,⟨e,0⟩):=λ_=>rfl
 have early:∀ {K:Option (Hp×Ans)},(o.code < 1\/10 < o.code)->Gd (λx=>x=(h,⟨if h.dead=true/\¬ o.code=0 then 19 else 20,0⟩)) (if h.dead=true then
   (if o.code=0 then ((Qp h 20).bind λv6=>some ((v6.1,v6.2))) else (Qp h 19).bind λv7=>some ((v7.1,v7.2)))
   else (Qp h 20).bind λv8=>some ((v8.1,v8.2))):=λ_=>by
  refine .ite (λk=>.ite (λk2=>?_) λk2=>?_) λk=>?_
  ·exact .call (no 20) (.some (by rw [if_neg λq=>q.2 k2]))
  ·exact .call (no 19) (.some (by rw [if_pos ⟨k,k2⟩]))
  ·exact .call (no 20) (.some (by rw [if_neg λq=>k q.1]))
 refine .ite (λk=>?_) λk1=>.ite (λk=>?_) λk2=>?_
 ·have k:o.code < 1:=k
  rw [if_pos (.inl k)]
  exact early (K:=none) (.inl k)
 ·have k:10 < o.code:=k
  rw [if_pos (.inr k)]
  exact early (K:=none) (.inr k)
 have k1:¬ o.code < 1:=k1
 have k2:¬ 10 < o.code:=k2
 rw [if_neg Oo]
 refine .ite (λhd=>?_) λhd=>?_
 ·rw [if_pos hd]
  exact .call (no 19) (.some rfl)
 have hd:¬ h.dead=true:=hd
 rw [if_neg hd]
 refine .ite (λk=>?_) λk=>?_
 ·rw [if_pos k]
  exact .call (alcD_c H hq hd o) (.some rfl)
 rw [if_neg k]
 refine .ite (λk8=>?_) λk8=>?_
 ·rw [if_pos k8]
  exact .call (collect_c H Oo hd) (.some rfl)
 rw [if_neg k8]
 refine .ite (λk10=>?_) λk10=>?_
 ·rw [if_pos k10]
  have:ZL h=some (sumW h.belts.flatten):=by
   unfold ZL
   rw [words11_c H.bsz H.wd];rfl
  exact .call this (.some rfl)
 rw [if_neg k10]
 refine .ite (λk6=>?_) λk6=>?_
 ·rw [if_pos k6]
  refine .call (QbM H.rts _ _) (.ite (λha=>?_) λha=>?_)
  ·have ha:QdP h.roots o.a false=0:=ha
   rw [if_pos ha]
   refine .call (QbM H.rts _ _) (.ite (λhb=>?_) λhb=>?_)
   ·have hb:QdP h.roots o.b false=0:=hb
    rw [if_pos hb]
    obtain ⟨_,_,_,a4,a5⟩:=wrd_ref H ha
    obtain ⟨_,_,_,b4,b5⟩:=wrd_ref H hb
    refine .call (Qco H.rts ⟨a4,a5⟩) (.call (Qco H.rts ⟨b4,b5⟩) ?_)
    have ht:XY (decide (Qcm h.roots o.a=Qcm h.roots o.b))=some (if Qcm h.roots o.a=Qcm h.roots o.b then 1 else 0):=by
     unfold XY
     by_cases e:Qcm h.roots o.a=Qcm h.roots o.b
     ·rw [if_pos (decide_eq_true e),if_pos e]
     ·rw [if_neg (by simpa using e),if_neg e]
    exact .call ht (.some rfl)
   ·have hb:¬ QdP h.roots o.b false=0:=hb
    rw [if_neg hb]
    exact .some rfl
  ·have ha:¬ QdP h.roots o.a false=0:=ha
   rw [if_neg ha]
   exact .some rfl
 rw [if_neg k6]
 refine .call (QbM H.rts _ _) (.ite (λha=>?_) λha=>?_)
 ·have ha:QdP h.roots o.a true=0:=ha
  rw [if_pos ha]
  obtain ⟨i,ei,hi,hl⟩:=hdl_i ha
  obtain ⟨x,p,r,d,X⟩:=root_x H hl
  have e1:Qcm h.roots o.a=Qr h.roots i:=by rw [ei];exact wrd_i i _
  have hlt:=X.lt
  have eX:=X.e
  have hps:=X.pos
  refine .ite (λk7=>?_) λk7=>?_
  ·rw [if_pos k7]
   refine .call (QaP H) ?_
   have:=drop20_c H.rts hi hl
   rw [<- ei] at this
   refine .call this (.some ?_)
   rw [ei,show ((i+1:Nat):Int) - 1=(i:Int) by omega,Wc]
   rfl
  rw [if_neg k7]
  refine .ite (λk9=>?_) λk9=>?_
  ·rw [if_pos k9]
   refine .call (Qco H.rts Oo) ?_
   rw [e1,Qd (n:=Qr h.roots i) Oo,Qd (n:=Qr h.roots i - 1) Oo]
   refine .call (look_c H.sp.ok.shp (Z1 H.sp.ok.fm) H.sp.w (by unfold I64;omega)) ?_
   rw [X.look]
   dsimp only
   rw [Qd (n:=256 * (r:Int)) Oo,Qd Oo]
   exact .some rfl
  rw [if_neg k9]
  refine .call (fld_c H hd ho ha (by
   have k:¬ o.code=1:=k
   have k8:¬ o.code=8:=k8
   have k10:¬ o.code=10:=k10
   have k6:¬ o.code=6:=k6
   have k7:¬ o.code=7:=k7
   have k9:¬ o.code=9:=k9
   omega)) (.some rfl)
 ·have ha:¬ QdP h.roots o.a true=0:=ha
  rw [if_neg ha]
  exact .some rfl
theorem rnd_out(H:QD h BL)(hq:h.seq+256<=4294967294):OpOut h ((Qcn 0 300 (cntH h h.since) ⟨0,false,0⟩).1,⟨0,0⟩):=by
 obtain ⟨c1,c2,c3,c4,c5⟩:=rnd_inv (H.cnt h.since ⟨h.stats.allocated,h.stats.objects,w64 (h.stats.collections+1),h.stats.steps,h.stats.rounds,h.stats.condemned,h.stats.copied,h.stats.entries,h.stats.work⟩ h.dead) (by show h.seq+256<=_;omega) 0
 have c5:(Qcn 0 300 (cntH h h.since) ⟨0,false,0⟩).1.seq<=h.seq+256:=c5
 exact ⟨c1,c2,c3,c4,by show (Qcn 0 300 (cntH h h.since) ⟨0,false,0⟩).1.seq<=_;omega⟩
theorem do_ok(H:QD h BL)(hq:h.seq+257<=4294967294){o:AOp}:(doR h o).2.err=18\/OpOut h (doR h o):=by
 have sm:=λa=>OpOut.same H a
 unfold doR
 split
 ·exact .inr (sm _)
 split
 ·exact .inr (sm _)
 rename_i hd
 split
 ·exact alcD_ok H hq hd _ _
 split
 ·exact .inr (rnd_out H Oo)
 split
 ·exact .inr (sm _)
 split
 ·split
  ·split
   ·exact .inr (sm _)
   ·exact .inr (sm _)
  ·exact .inr (sm _)
 split
 ·rename_i ha
  obtain ⟨i,ei,hi,hl⟩:=hdl_i ha
  obtain ⟨x,p,r,d,X⟩:=root_x H hl
  have e1:Qcm h.roots o.a=Qr h.roots i:=by rw [ei];exact wrd_i i _
  have hlt:=X.lt
  right
  split
  ·rw [ei,show ((i+1:Nat):Int) - 1=(i:Int) by omega,Wc]
   exact ⟨⟨BL,H.dropH hi _ _ _⟩,rfl,rfl,Vk _,by show h.seq<=_;omega⟩
  split
  ·exact sm _
  ·unfold fldD
   split
   ·rename_i h0
    unfold plcD at h0 ⊢
    rw [e1] at h0 ⊢
    split
    ·exact sm _
    split
    ·rename_i k2
     rw [decide_eq_true (.inl k2)] at h0 ⊢
     split
     ·exact sm _
     split
     ·exact sm _
     ·rename_i hw hf
      obtain ⟨j,ej,hj,_⟩:=frsI_some H.rts hf
      have et:∀ w,(takE h.roots w).1=takR h.roots j w:=λw=>by unfold takE;rw [ej]
      have hpl:=X.plc o.b true
      have hbb:¬ (o.b < 0\/(if true then (r:Int) else d)<=o.b):=λk=>by rw [hpl,if_pos k] at h0;cases h0
      have F:=X.fld hbb
      have hkr:fldK r o.b true<=r:=by unfold fldK;simp at hbb ⊢;omega
      rw [if_neg hbb] at hpl
      have hr:=H.refs _ (F.slot hkr)
      have hu:=wAt_u H.sp.w ((adr (szS h.space) x.fr (p+fldK r o.b true):Nat):Int)
      rw [hpl] at hw ⊢
      rcases hr with hr | ⟨hr1,r',d',hob⟩
      ·exact absurd hr hw
      ·refine ⟨⟨BL,?_⟩,rfl,rfl,Vk _,by show h.seq<=_;omega⟩
       rw [et]
       exact H.take hj hr1 hu hob _ _ _
    split
    ·rename_i k2 k3
     rw [decide_eq_true (.inr k3)] at h0 ⊢
     split
     ·rename_i hc
      by_cases hb:I64 o.b
      ·exact ⟨⟨BL,(X.wref hd hb h0 hc).2⟩,rfl,rfl,Vk _,by show h.seq<=_;omega⟩
      ·exfalso
       have hpl:=X.plc o.b true
       have hbb:¬ (o.b < 0\/(if true then (r:Int) else d)<=o.b):=λk=>by rw [hpl,if_pos k] at h0;cases h0
       have:=X.pos
       simp at hbb
       unfold I64 at hb
       omega
     ·exact sm _
    ·rename_i k4 k2 k3
     rw [decide_eq_false (by rintro (k | k);exact k2 k;exact k3 k)] at h0 ⊢
     have hb:I64 o.b:=by
      have hpl:=X.plc o.b false
      have hbb:¬ (o.b < 0\/(if false then (r:Int) else d)<=o.b):=λk=>by rw [hpl,if_pos k] at h0;cases h0
      have:=X.pos
      simp at hbb
      unfold I64
      omega
     exact ⟨⟨BL,(X.wdat hd hb h0 (wu_u _)).2⟩,rfl,rfl,Vk _,by show h.seq<=_;omega⟩
   ·exact sm _
 ·exact .inr (sm _)
end
structure GOk(g:Gra):Prop where
 u:g.used.length=32
 v:g.roots.length=32
 n:g.nodes.length<=1000000
 t:∀ (i:Nat),g.used[i]?=some true->∃ k:Nat,g.roots[i]?=some (k:Int)/\k < g.nodes.length
 r:∀ nd∈g.nodes,nd.refs.length<=15/\nd.data.length<=32/\(∀ v∈nd.refs,v = -1\/(0<=v/\v < g.nodes.length))/\∀ x∈nd.data,U64 x
inductive Rch(g:Gra):Nat->Prop
 | root {i v:Nat}:g.used[i]?=some true->g.roots[i]?=some (v:Int)->Rch g v
 | edge {u v:Nat} {nd:Nod}:Rch g u->g.nodes[u]?=some nd->(v:Int)∈nd.refs->Rch g v
theorem GOk.rlt{g:Gra}(h:GOk g){v:Nat}(r:Rch g v):v < g.nodes.length:=by
 cases r with
 | root h1 h2 =>
  obtain ⟨k,e,hk⟩:=h.t _ h1
  rw [h2] at e
  injection e with e
  omega
 | edge h1 h2 h3 =>
  have:=(h.r _ (Wp h2)).2.2.1 _ h3
  omega
structure MrkI(g:Gra)(bs:List Bool):Prop where
 len:bs.length=g.nodes.length
 snd:∀ v,bs[v]?=some true->Rch g v
theorem MrkI.set{g:Gra}{bs:List Bool}(h:MrkI g bs){v:Nat}(hv:Rch g v):MrkI g (bs.set v true):=by
 refine ⟨by rw [Ww];exact h.len,λw hw=>?_⟩
 rw [V6] at hw
 split at hw
 ·rename_i e;rw [<- e];exact hv
 ·exact h.snd w hw
def MrkLe(a b:List Bool):Prop:=∀ v:Nat,a[v]?=some true->b[v]?=some true
theorem MrkLe.set(a:List Bool)(v:Nat):MrkLe a (a.set v true):=λw hw=>by
 rw [V6]
 obtain ⟨hl,_⟩:=Wi.1 hw
 split
 ·rename_i e;rw [if_pos Oo]
 ·exact hw
theorem MrkLe.trans{a b c:List Bool}(h:MrkLe a b)(k:MrkLe b c):MrkLe a c:=λv hv=>k v (h v hv)
def RootsIn(g:Gra)(bs:List Bool):Prop:=∀ (i v:Nat),g.used[i]?=some true->g.roots[i]?=some (v:Int)->bs[v]?=some true
def NodeIn(bs:List Bool)(i:Nat)(nd:Nod)(k:Nat):Prop:=bs[i]?=some true->∀ j (h:j < nd.refs.length),j < k->∀ v:Nat,nd.refs[j]=(v:Int)->bs[v]?=some true
noncomputable def rchL(g:Gra):List Int:=((List.range g.nodes.length).filter λv=>bP (Rch g v)).map λ(v:Nat)=>(v:Int)
theorem mark_set{bs:List Bool}{v:Nat}(hv:v < bs.length)(h:¬ bs[v]=true):bs.count true < (bs.set v true).count true:=by
 rw [List.count_set hv]
 have:(bs[v] == true)=false:=by simpa using h
 simp [this]
theorem reach_c{g:Gra}(h:GOk g):XX g=some (rchL g):=by
 have hu:=h.u
 have hv:=h.v
 have hn:=h.n
 refine Gd.eq ?_
 unfold XX
 refine .pos Oo ?_
 refine Gd.bind (P:=λbs=>MrkI g bs/\RootsIn g bs) ?_ λbs hbs=>?_
 ·refine Gd.for g.used.length (λ(t:List Bool) i=>(t,i)) (λi t=>MrkI g t/\∀ (j v:Nat),j < i->g.used[j]?=some true->g.roots[j]?=some (v:Int)->t[v]?=some true) (List.replicate g.nodes.length false) (by rw [Wc]) (λ_ _=>rfl) Oo ⟨⟨W8,λv hv=>by rw [VS] at hv;split at hv <;> cases hv⟩,λj v hj=>by omega⟩ (λi hi t ht=>?_) (λt ht=>⟨ht.1,λi v h1 h2=>ht.2 i v (Wi.1 h1).1 h1 h2⟩)
  refine .atN hi (.ite (λk=>?_) λk=>.some (.inl ⟨t,rfl,ht.1,λj v hj h1 h2=>?_⟩))
  ·have k:g.used[i]=true:=k
   have hui:g.used[i]?=some true:=by rw [Wa hi,k]
   obtain ⟨w,e,hw⟩:=h.t i hui
   obtain ⟨hr,er⟩:=Wi.1 e
   refine .atN hr ?_
   rw [er]
   have hwt:w < t.length:=by rw [ht.1.len];exact hw
   refine .atN hwt (.some (.inl ⟨t.set w true,by rw [Wc],ht.1.set (.root hui e),λj v hj h1 h2=>?_⟩))
   by_cases ej:j=i
   ·subst ej
    rw [e] at h2
    injection h2 with h2
    have:w=v:=by omega
    subst this
    rw [WB hwt]
   ·exact MrkLe.set t w v (ht.2 j v Oo h1 h2)
  ·have k:¬ g.used[i]=true:=k
   by_cases ej:j=i
   ·subst ej
    rw [Wa hi] at h1
    injection h1 with h1
    exact absurd h1 k
   ·exact ht.2 j v Oo h1 h2
 refine Gd.bind (P:=λbs=>MrkI g bs/\∀ v,Rch g v->bs[v]?=some true) ?_ λbs hbs=>?_
 ·refine Gd.loop (λ(s:List Bool×Bool)=>MrkI g s.1/\RootsIn g s.1/\(s.2=false->∀ (i:Nat) (hi:i < g.nodes.length),NodeIn s.1 i g.nodes[i] g.nodes[i].refs.length)) _ (λs=>2 * (g.nodes.length - s.1.count true)+(if s.2=true then 1 else 0)) ⟨hbs.1,hbs.2,λe=>by cases e⟩ ?_
  rintro ⟨b0,fl0⟩ ⟨hb1,hb2,hb3⟩
  dsimp only at hb1 hb2 hb3
  refine .ite (λhfl=>?_) λhfl=>.out ⟨hb1,λv hv=>?_⟩
  ·have hfl:fl0=true:=hfl
   subst hfl
   refine Gd.for g.nodes.length (λ(t:List Bool×Bool) i=>(t.1,t.2,i)) (λi t=>MrkI g t.1/\MrkLe b0 t.1/\(t.2=false->t.1=b0/\∀ (k:Nat) (hk:k < g.nodes.length),k < i->NodeIn b0 k g.nodes[k] g.nodes[k].refs.length)/\(t.2=true->b0.count true < t.1.count true)) (b0,false) rfl (λ_ _=>rfl) Oo ⟨hb1,λ_ h=>h,λ_=>⟨rfl,λk _ hk=>by omega⟩,λe=>by cases e⟩ (λi hi t ht=>?_) (λt ht=>?_)
   ·obtain ⟨t1,t2,t3,t4⟩:=ht
    have hnd:=h.r _ (Wd hi)
    refine Gd.bind (P:=λb:List Bool×Bool=>MrkI g b.1/\MrkLe b0 b.1/\(b.2=false->b.1=b0/\t.2=false/\NodeIn b0 i g.nodes[i] g.nodes[i].refs.length)/\(b.2=true->b0.count true < b.1.count true)) ?_ λb hb=>.some (.inl ⟨b,rfl,hb.1,hb.2.1,λe=>⟨(hb.2.2.1 e).1,λk hk hki=>?_⟩,hb.2.2.2⟩)
    ·refine .atN hi ?_
     refine Gd.for g.nodes[i].refs.length (λ(t:List Bool×Bool) i=>(t.1,t.2,i)) (λj b=>MrkI g b.1/\MrkLe b0 b.1/\(b.2=false->b.1=b0/\t.2=false/\NodeIn b0 i g.nodes[i] j)/\(b.2=true->b0.count true < b.1.count true)) t rfl (λ_ _=>rfl) Oo ⟨t1,t2,λe=>⟨(t3 e).1,e,λ_ j _ hj=>by omega⟩,t4⟩ (λj hj b hb=>?_) (λb hb=>hb)
     obtain ⟨b1,b2,b3,b4⟩:=hb
     have hbi:i < b.1.length:=by rw [b1.len];exact hi
     have keep:(¬ b.1[i]=true\/(∀ v:Nat,g.nodes[i].refs[j]=(v:Int)->b.1[v]?=some true))->(b.2=false->b.1=b0/\t.2=false/\NodeIn b0 i g.nodes[i] (j+1)):=λhk e=>by
      obtain ⟨e1,e2,e3⟩:=b3 e
      refine ⟨e1,e2,λhbi' j' hj' hjj v hv=>?_⟩
      by_cases ej:j'=j
      ·subst ej
       rcases hk with hk | hk
       ·exfalso
        rw [<- e1,Wa hbi] at hbi'
        injection hbi' with hbi'
        exact hk hbi'
       ·rw [<- e1];exact hk v hv
      ·exact e3 hbi' j' hj' Oo v hv
     refine .atN hj (.atN hbi (.ite (λk1=>?_) λk1=>.some (.inl ⟨b,rfl,b1,b2,keep (.inl k1),b4⟩)))
     have k1:b.1[i]=true:=k1
     have hri:Rch g i:=b1.snd i (by rw [Wa hbi,k1])
     refine .ite (λk2=>?_) λk2=>.some (.inl ⟨b,rfl,b1,b2,keep (.inr λv hv=>by
      have k2:¬ 0<=g.nodes[i].refs[j]:=k2
      omega),b4⟩)
     have k2:0<=g.nodes[i].refs[j]:=k2
     obtain ⟨w,ew⟩:∃ w:Nat,g.nodes[i].refs[j]=(w:Int):=⟨g.nodes[i].refs[j].toNat,Oo⟩
     have hrw:Rch g w:=.edge hri (Wa hi) (ew▸Wd hj)
     have hwl:w < b.1.length:=by rw [b1.len];exact h.rlt hrw
     rw [ew]
     refine .atN hwl (.ite (λk3=>.some (.inl ⟨b,rfl,b1,b2,keep (.inr λv hv=>?_),b4⟩)) λk3=>.some (.inl ⟨(b.1.set w true,true),by rw [Wc],b1.set hrw,b2.trans (.set _ _),λe=>(by cases e),λ_=>?_⟩))
     ·have k3:b.1[w]=true:=k3
      have:v=w:=by omega
      rw [this,Wa hwl,k3]
     ·have k3:¬ b.1[w]=true:=k3
      have h1:=mark_set hwl k3
      show b0.count true < (b.1.set w true).count true
      by_cases e:b.2=true
      ·have:=b4 e;omega
      ·rw [(b3 (by simpa using e)).1] at h1 ⊢
       exact h1
    ·obtain ⟨e1,e2,e3⟩:=hb.2.2.1 e
     by_cases ek:k=i
     ·subst ek;exact e3
     ·exact (t3 e2).2 k hk Oo
   ·obtain ⟨t1,t2,t3,t4⟩:=ht
    refine ⟨⟨t1,λi v h1 h2=>t2 v (hb2 i v h1 h2),λe k hk=>?_⟩,?_⟩
    ·obtain ⟨e1,e2⟩:=t3 e
     rw [e1]
     exact e2 k hk hk
    ·show 2 * (g.nodes.length - t.1.count true)+_ < 2 * (g.nodes.length - b0.count true)+_
     have hc:t.1.count true<=g.nodes.length:=by rw [<- t1.len];exact List.count_le_length
     by_cases e:t.2=true
     ·have:=t4 e
      simp only [e,if_true]
      omega
     ·rw [(t3 (by simpa using e)).1]
      simp only [e,if_true]
      simp
  ·have hfl:fl0=false:=by simpa using hfl
   have hcl:=hb3 hfl
   induction hv with
   | root h1 h2=>exact hb2 _ _ h1 h2
   | edge h1 h2 h3 ih =>
    obtain ⟨hl,e⟩:=Wi.1 h2
    subst e
    obtain ⟨j,hj,ej⟩:=Um h3
    exact hcl _ hl ih j hj hj _ ej
 obtain ⟨hb1,hb2⟩:=hbs
 have hbl:=hb1.len
 have hiff:∀ (i:Nat) (hi:i < bs.length),bs[i]=true<->Rch g i:=λi hi=>⟨λk=>hb1.snd i (by rw [Wa hi,k]),λk=>by
  have:=hb2 i k
  rw [Wa hi] at this
  injection this⟩
 refine Gd.bind (P:=λb=>b=rchL g) ?_ λb hb=>.some hb
 refine Gd.for bs.length (λ(t:List Int) i=>(t,i)) (λi t=>t.length<=i/\t=((List.range i).filter λv=>bP (Rch g v)).map λ(v:Nat)=>(v:Int)) [] rfl (λ_ _=>rfl) Oo ⟨Os,rfl⟩ (λi hi t ht=>?_) (λt ht=>by rw [ht.2,hbl];rfl)
 have ht1:=ht.1
 rw [VX,Vj,WF,<- ht.2]
 refine .atN hi (.ite (λk=>.pos (XD (l:=t) Oo Oo) (.some (.inl ⟨t++[(i:Int)],rfl,by rw [Wn,WE];omega,?_⟩))) λk=>.some (.inl ⟨t,rfl,Oo,?_⟩))
 ·have k:bs[i]=true:=k
  simp [W4,Qc3 ((hiff i hi).1 k)]
 ·have k:¬ bs[i]=true:=k
  simp [W4,bP_f (λq=>k ((hiff i hi).2 q))]
def nodW(nd:Nod):Int:=1+(nd.refs.length:Int)+(nd.data.length:Int)
noncomputable def livW(g:Gra):Int:=((rchL g).map λv=>((g.nodes[v.toNat]?).map nodW).getD 0).sum
theorem live29_c{g:Gra}(h:GOk g):Ju g=some (livW g):=by
 have hn:=h.n
 have hlen:(rchL g).length<=g.nodes.length:=by
  unfold rchL
  rw [Wb]
  have:=WN (λv=>bP (Rch g v)) (List.range g.nodes.length)
  rw [WM] at this
  exact this
 have hmem:∀ i (hi:i < (rchL g).length),∃ v:Nat,(rchL g)[i]=(v:Int)/\v < g.nodes.length:=λi hi=>by
  have:=Wd hi
  obtain ⟨v,hv,e⟩:=Wj.1 (show (rchL g)[i]∈((List.range g.nodes.length).filter λv=>bP (Rch g v)).map λ(v:Nat)=>(v:Int) from this)
  exact ⟨v,e.symm,WC.1 (WI.1 hv).1⟩
 refine Gd.eq ?_
 unfold Ju
 refine Gd.bind (P:=λb=>b=livW g) ?_ λb hb=>.some hb
 refine .call (reach_c h) ?_
 refine Gd.fold (rchL g) (λ(t:Int) i=>(t,i)) (λt v=>t+((g.nodes[v.toNat]?).map nodW).getD 0) 0 (λi t=>0<=t/\t<=48 * (i:Int)) rfl (λ_ _=>rfl) Oo ⟨Vk _,Oo⟩ (λi hi t ht=>?_) (λ_=>?_)
 ·obtain ⟨v,e,hv⟩:=hmem i hi
  have hnd:=h.r _ (Wd hv)
  rw [e,Wc,Wa hv]
  have e2:((some g.nodes[v]).map nodW).getD 0=1+(g.nodes[v].refs.length:Int)+(g.nodes[v].data.length:Int):=rfl
  rw [e2]
  refine ⟨⟨Oo,Oo⟩,.atN hi ?_⟩
  rw [e]
  refine .atN hv (.some ?_)
  dsimp only
  rw [Qd (n:=1+(g.nodes[v].refs.length:Int)) Oo,Qd (n:=1+(g.nodes[v].refs.length:Int)+(g.nodes[v].data.length:Int)) Oo,Qd (n:=t+_) Oo]
 ·show List.foldl _ 0 (rchL g)=livW g
  unfold livW
  rw [List.sum_eq_foldl,List.foldl_map]
theorem copy29_c{g:Gra}(h:GOk g):Jv g=some g:=by
 have hu:=h.u
 have hv:=h.v
 have hn:=h.n
 refine Gd.eq ?_
 unfold Jv
 refine .pos Oo (.pos Oo ?_)
 refine Gd.bind (P:=λb=>b=g.nodes) ?_ λb hb=>.some (by rw [hb])
 refine Gd.for g.nodes.length (λ(t:List Nod) i=>(t,i)) (λi t=>t=g.nodes.take i) [] rfl (λ_ _=>rfl) Oo rfl (λi hi t ht=>?_) (λt ht=>by rw [ht,WH])
 have hnd:=h.r _ (Wd hi)
 have hl:t.length<=i:=by rw [ht,Ws];omega
 refine .atN hi (.pos Oo (.pos Oo (.pos (show ((t.length:Int)+1) * 48<=140737488355328/\(t.length:Int)+1<=9223372036854775807 by omega) (.some (.inl ⟨t++[g.nodes[i]],rfl,?_⟩)))))
 rw [ht,Vt hi]
def frsG(g:Gra):Option Nat:=(List.range g.used.length).find? λi=>g.used[i]? == some false
def frsV:Option Nat->Int
 | some i=>((i+1:Nat):Int)
 | none=>0
theorem free29_c{g:Gra}(h:GOk g):XF g=some (frsV (frsG g)):=by
 have hu:=h.u
 refine Gd.eq ?_
 unfold XF
 refine Gd.bndR (P:=λz=>(z = .inl ()/\frsG g=none)\/(∃ i,z = .inr ((i+1:Nat):Int)/\frsG g=some i)) ?_ (λ_ hP=>?_) (λr hP=>?_)
 ·refine Gd.find g.used (λx=>x=false) Oo (λi hi hn=>?_) (λhn=>.inl ⟨rfl,?_⟩)
  ·refine .atN hi (.ite (λk=>.some (.inl ⟨by simp [show g.used[i]=true from k],rfl⟩)) λk=>?_)
   have k:¬ g.used[i]=true:=k
   have k2:g.used[i]=false:=by simpa using k
   refine .some (.inr ⟨k2,_,rfl,.inr ⟨i,by rw [Qd Oo];rfl,?_⟩⟩)
   unfold frsG
   rw [Yy]
   refine ⟨by simp [Wa hi,k2],WC.2 hi,λj hj=>?_⟩
   have:=hn j Oo hj
   simp [Wa (show j < g.used.length by omega),this]
  ·unfold frsG
   rw [UQ]
   intro i hi
   rw [WC] at hi
   have:=hn _ (Wd hi)
   simp [Wa hi,this]
 ·rcases hP with ⟨_,hP⟩ | ⟨i,hP,_⟩
  ·exact .some (by rw [hP];rfl)
  ·cases hP
 ·rcases hP with ⟨hP,_⟩ | ⟨i,hP,e⟩
  ·cases hP
  ·injection hP with hP
   rw [e,hP];rfl
theorem frsG_lt{g:Gra}(h:GOk g){i:Nat}(e:frsG g=some i):i < 32:=by
 have:=WC.1 (VZ e)
 have:=h.u
 omega
def Qes(g:Gra)(a:Int)(nz:Bool):Int:=if a=0 then (if nz=true then 16 else 0) else if a < 0\/32 < a then 14 else if g.used[(a - 1).toNat]?=some true then 0 else 14
theorem QbL{g:Gra}(h:GOk g)(a:Int)(nz:Bool):Q1 g a nz=some (Qes g a nz):=by
 have h1:=h.u
 refine Gd.eq ?_
 unfold Q1 Qes
 refine .ite (λh0=>?_) λh0=>?_
 ·rw [if_pos h0]
  exact .ite (λk=>.some (by rw [if_pos k])) λk=>.some (by rw [if_neg k])
 ·rw [if_neg h0]
  refine .ite (λk=>.some (by rw [if_pos (.inl k)])) λk1=>.ite (λk=>.some (by rw [if_pos (.inr k)])) λk2=>?_
  rw [if_neg Oo,Qd Oo]
  obtain ⟨i,rfl⟩:∃ i:Nat,a=((i+1:Nat):Int):=⟨(a - 1).toNat,Oo⟩
  have hi:i < g.used.length:=by omega
  rw [show ((i+1:Nat):Int) - 1=(i:Int) by omega,Wc,Wa hi]
  refine .atN hi (.ite (λk=>.some (by rw [if_pos (by rw [show g.used[i]=true from k])])) λk=>.some (by rw [if_neg (by simpa using k)]))
theorem hdlG_0{g:Gra}{a:Int}{nz:Bool}(h:Qes g a nz=0):(a=0/\nz=false)\/∃ i:Nat,a=((i+1:Nat):Int)/\i < 32/\g.used[i]?=some true:=by
 unfold Qes at h
 split at h
 ·rename_i e
  split at h
  ·cases h
  ·rename_i k;exact .inl ⟨e,by simpa using k⟩
 ·split at h
  ·cases h
  ·split at h
   ·rename_i k
    exact .inr ⟨(a - 1).toNat,Oo,Oo,k⟩
   ·cases h
def nodE(g:Gra)(a:Int):Int:=if a=0 then -1 else (g.roots[(a - 1).toNat]?).getD 0
theorem QbJ{g:Gra}(h:GOk g){a:Int}(ha:0<=a/\a<=32):Q0 g a=some (nodE g a):=by
 have h1:=h.v
 refine Gd.eq ?_
 unfold Q0 nodE
 refine .ite (λh0=>.some (by rw [if_pos h0])) λh0=>?_
 rw [if_neg h0,Qd Oo]
 obtain ⟨i,rfl⟩:∃ i:Nat,a=((i+1:Nat):Int):=⟨(a - 1).toNat,Oo⟩
 have hi:i < g.roots.length:=by omega
 rw [show ((i+1:Nat):Int) - 1=(i:Int) by omega,Wc]
 refine .atN hi (.some ?_)
 rw [Wa hi];rfl
theorem nodE_i{g:Gra}(h:GOk g){i:Nat}(hu:g.used[i]?=some true):∃ k:Nat,nodE g ((i+1:Nat):Int)=(k:Int)/\k < g.nodes.length:=by
 obtain ⟨k,e,hk⟩:=h.t i hu
 refine ⟨k,?_,hk⟩
 unfold nodE
 rw [if_neg Oo,show ((i+1:Nat):Int) - 1=(i:Int) by omega,Wc,e];rfl
theorem QdG{g:Gra}(h:GOk g){a:Int}(ha:Qes g a false=0):(nodE g a = -1\/(0<=nodE g a/\nodE g a < g.nodes.length))/\0<=a/\a<=32:=by
 rcases hdlG_0 ha with ⟨rfl,_⟩ | ⟨i,rfl,hi,hu⟩
 ·exact ⟨.inl (by unfold nodE;rw [if_pos rfl]),Oo,Oo⟩
 ·obtain ⟨k,e,hk⟩:=nodE_i h hu
  exact ⟨.inr (by rw [e];omega),Oo,Oo⟩
def rotG(g:Gra)(v:Int):Option Nat->Gra×Ans
 | none=>(g,⟨15,0⟩)
 | some i=>(⟨g.nodes,g.used.set i true,g.roots.set i v⟩,⟨0,((i+1:Nat):Int)⟩)
def newG(g:Gra)(a b:Int):Option Nat->Gra×Ans
 | none=>(g,⟨15,0⟩)
 | some i=>(⟨g.nodes++[⟨List.replicate a.toNat (-1),List.replicate b.toNat 0⟩],g.used.set i true,g.roots.set i (g.nodes.length:Int)⟩,⟨0,((i+1:Nat):Int)⟩)
noncomputable def nodG(g:Gra)(o:AOp)(n:Nat)(nd:Nod):Gra×Ans :=
 if o.code=7 then (⟨g.nodes,g.used.set (o.a - 1).toNat false,g.roots.set (o.a - 1).toNat (-1)⟩,⟨0,0⟩)
 else if o.code=9 then (g,⟨0,wu (256 * (nd.refs.length:Int)+(nd.data.length:Int))⟩)
 else if o.b < 0\/(if o.code=2\/o.code=3 then (nd.refs.length:Int) else (nd.data.length:Int))<=o.b then (g,⟨17,0⟩)
 else if o.code=4 then (g,⟨0,(nd.data[o.b.toNat]?).getD 0⟩)
 else if o.code=5 then (⟨g.nodes.set n ⟨nd.refs,nd.data.set o.b.toNat (wu o.c_)⟩,g.used,g.roots⟩,⟨0,0⟩)
 else if o.code=3 then
  (if Qes g o.c_ false=0 then (⟨g.nodes.set n ⟨nd.refs.set o.b.toNat (nodE g o.c_),nd.data⟩,g.used,g.roots⟩,⟨0,0⟩) else (g,⟨Qes g o.c_ false,0⟩))
 else if (nd.refs[o.b.toNat]?).getD 0 = -1 then (g,⟨0,0⟩)
 else rotG g ((nd.refs[o.b.toNat]?).getD 0) (frsG g)
noncomputable def doG(g:Gra)(o:AOp):Gra×Ans :=
  if o.code=1 then
    (if o.a < 0\/15 < o.a\/o.b < 0\/32 < o.b then (g,⟨13,0⟩)
     else newG g o.a o.b (frsG g))
  else if o.code=8 then (g,⟨0,0⟩)
  else if o.code=10 then (g,⟨0,wu (livW g)⟩)
  else if o.code=6 then
    (if Qes g o.a false=0 then
      (if Qes g o.b false=0 then (g,⟨0,if nodE g o.a=nodE g o.b then 1 else 0⟩) else (g,⟨Qes g o.b false,0⟩))
     else (g,⟨Qes g o.a false,0⟩))
  else if o.code=7\/o.code=9\/o.code=2\/o.code=3\/o.code=4\/o.code=5 then
    (if Qes g o.a true=0 then nodG g o (nodE g o.a).toNat ((g.nodes[(nodE g o.a).toNat]?).getD ⟨[],[]⟩) else (g,⟨Qes g o.a true,0⟩))
  else (g,⟨20,0⟩)
set_option maxHeartbeats 1000000 in
theorem do29_c{g:Gra}(h:GOk g)(o:AOp):Qas g o=some (doG g o):=by
  have hu:=h.u
  have hv:=h.v
  have hn:=h.n
  have fail:∀ e,Qs g e=some (g,⟨e,0⟩):=λ_=>rfl
  refine Gd.eq ?_
  unfold Qas doG
  refine .call (copy29_c h) ?_
  refine Gd.bndR (P:=λz=>(z = .inl ()/\(o.code=7\/o.code=9\/o.code=2\/o.code=3\/o.code=4\/o.code=5))\/z = .inr (doG g o)) ?_ (λ_ hP=>?_) (λr hP=>?_)
  · refine .ite (λk1=>?_) λk1=>?_
    · have k1:o.code=1:=k1
      have hG:doG g o=if o.a < 0\/15 < o.a\/o.b < 0\/32 < o.b then (g,⟨13,0⟩)
        else newG g o.a o.b (frsG g):=by
        unfold doG;rw [if_pos k1]
      refine .ite (λk=>.call (fail 13) (.some (.inr (by rw [hG,if_pos (.inl k)])))) λka=>?_
      refine .ite (λk=>.call (fail 13) (.some (.inr (by rw [hG,if_pos (.inr (.inl k))])))) λkb=>?_
      refine .ite (λk=>.call (fail 13) (.some (.inr (by rw [hG,if_pos (.inr (.inr (.inl k)))])))) λkc=>?_
      refine .ite (λk=>.call (fail 13) (.some (.inr (by rw [hG,if_pos (.inr (.inr (.inr k)))])))) λkd=>?_
      rw [if_neg Oo] at hG
      refine .call (free29_c h) ?_
      cases e:frsG g with
      | none =>
        rw [e] at hG
        exact .pos rfl (.call (fail 15) (.some (.inr (by rw [hG];rfl))))
      | some i =>
        rw [e] at hG
        have hi:=frsG_lt h e
        have ef:frsV (some i)=((i+1:Nat):Int):=rfl
        rw [ef]
        refine .neg (by show ¬ ((i+1:Nat):Int)=0;omega) (.pos Oo ?_)
        refine Gd.bind (P:=λb:List Int=>b=List.replicate o.a.toNat (-1)) ?_ λb hb=>?_
        · obtain ⟨n,en⟩:∃ n:Nat,o.a=(n:Int):=⟨o.a.toNat,Oo⟩
          rw [en,Wc]
          refine Gd.for n (λ(t:List Int) i=>(t,i)) (λi t=>t=List.replicate i (-1)) [] rfl (λ_ _=>rfl) Oo rfl (λj hj t ht=>?_) (λt ht=>by rw [ht])
          have hl:t.length=j:=by rw [ht,W8]
          refine .pos (XD (l:=t) Oo Oo) (.some (.inl ⟨t++[-1],rfl,?_⟩))
          rw [ht,Ya]
        · subst hb
          refine .pos Oo ?_
          rw [Qd Oo,show ((i+1:Nat):Int) - 1=(i:Int) by omega]
          refine .atN Oo (.atN Oo (.some (.inr ?_)))
          rw [hG]
          unfold newG
          dsimp only
          rw [Wn,WE,Qd Oo,Wc,Jd (n:=((i+1:Nat):Int)) Oo,show ((g.nodes.length+1:Nat):Int) - 1=(g.nodes.length:Int) by omega]
    have k1:¬ o.code=1:=k1
    refine .ite (λk8=>.some (.inr (by unfold doG;rw [if_neg k1,if_pos k8]))) λk8=>?_
    refine .ite (λk10=>.call (live29_c h) (.some (.inr (by unfold doG;rw [if_neg k1,if_neg k8,if_pos k10])))) λk10=>?_
    refine .ite (λk6=>?_) λk6=>?_
    · have hG:doG g o=if Qes g o.a false=0 then
          (if Qes g o.b false=0 then (g,⟨0,if nodE g o.a=nodE g o.b then 1 else 0⟩) else (g,⟨Qes g o.b false,0⟩))
         else (g,⟨Qes g o.a false,0⟩):=by unfold doG;rw [if_neg k1,if_neg k8,if_neg k10,if_pos k6]
      refine .call (QbL h _ _) (.ite (λha=>?_) λha=>.call (fail _) (.some (.inr (by rw [hG,if_neg ha]))))
      have ha:Qes g o.a false=0:=ha
      rw [if_pos ha] at hG
      refine .call (QbL h _ _) (.ite (λhb=>?_) λhb=>.call (fail _) (.some (.inr (by rw [hG,if_neg hb]))))
      have hb:Qes g o.b false=0:=hb
      rw [if_pos hb] at hG
      refine .call (QbJ h (QdG h ha).2) (.call (QbJ h (QdG h hb).2) ?_)
      exact .ite (λk=>.some (.inr (by rw [hG,if_pos k]))) λk=>.some (.inr (by rw [hG,if_neg k]))
    refine .ite (λk=>.some (.inl ⟨rfl,.inl k⟩)) λk7=>.ite (λk=>.some (.inl ⟨rfl,.inr (.inl k)⟩)) λk9=>.ite (λk=>.some (.inl ⟨rfl,.inr (.inr (.inl k))⟩)) λk2=>.ite (λk=>.some (.inl ⟨rfl,.inr (.inr (.inr (.inl k)))⟩)) λk3=>.ite (λk=>.some (.inl ⟨rfl,.inr (.inr (.inr (.inr (.inl k))))⟩)) λk4=>.ite (λk=>.some (.inl ⟨rfl,.inr (.inr (.inr (.inr (.inr k))))⟩)) λk5=>.call (fail 20) (.some (.inr ?_))
    unfold doG
    rw [if_neg k1,if_neg k8,if_neg k10,if_neg k6,if_neg]
    rintro (k | k | k | k | k | k)
    · exact k7 k
    · exact k9 k
    · exact k2 k
    · exact k3 k
    · exact k4 k
    · exact k5 k
  · rcases hP with ⟨_,hc⟩ | hP
    · have hG:doG g o=if Qes g o.a true=0 then nodG g o (nodE g o.a).toNat ((g.nodes[(nodE g o.a).toNat]?).getD ⟨[],[]⟩) else (g,⟨Qes g o.a true,0⟩):=by
        unfold doG
        rw [if_neg Oo,if_neg Oo,if_neg Oo,if_neg Oo,if_pos hc]
      show Gd (λx=>x=doG g o) _
      rw [hG]
      refine .call (QbL h _ _) (.ite (λha=>?_) λha=>.call (fail _) (.some (by rw [if_neg ha])))
      have ha:Qes g o.a true=0:=ha
      rw [if_pos ha]
      obtain ⟨i,ei,hi,hui⟩:∃ i:Nat,o.a=((i+1:Nat):Int)/\i < 32/\g.used[i]?=some true:=by
        rcases hdlG_0 ha with ⟨_,k⟩ | k
        · cases k
        · exact k
      obtain ⟨n,en,hnl⟩:=nodE_i h hui
      rw [<- ei] at en
      have hnd:=h.r _ (Wd hnl)
      refine .call (QbJ h Oo) ?_
      rw [en,Wc,Wa hnl]
      refine .atN hnl ?_
      have em:o.a - 1=(i:Int):=by omega
      unfold nodG
      refine .ite (λk7=>?_) λk7=>?_
      · rw [if_pos k7,em,Qd Oo,Wc]
        exact .atN Oo (.atN Oo (.some rfl))
      have k7:¬ o.code=7:=k7
      rw [if_neg k7]
      refine .ite (λk9=>?_) λk9=>?_
      · rw [if_pos k9]
        refine .some ?_
        dsimp only [Option.getD_some]
        rw [Qd (n:=256 * _) Oo,Qd (n:=256 * (g.nodes[n].refs.length:Int)+_) Oo]
      have k9:¬ o.code=9:=k9
      rw [if_neg k9]
      dsimp only [Option.getD_some]
      refine Gd.bind (P:=λb=>b=if o.code=2\/o.code=3 then (g.nodes[n].refs.length:Int) else (g.nodes[n].data.length:Int)) ?_ λb hb=>?_
      · refine .ite (λk=>.some (by rw [if_pos (.inl k)])) λk2=>.ite (λk=>.some (by rw [if_pos (.inr k)])) λk3=>.some (by rw [if_neg];rintro (k | k);exact k2 k;exact k3 k)
      subst hb
      refine .ite (λk=>.call (fail 17) (.some (by rw [if_pos (.inl k)]))) λkb=>.ite (λk=>.call (fail 17) (.some (by rw [if_pos (.inr k)]))) λkc=>?_
      have kb:¬ o.b < 0:=kb
      rw [if_neg (by rintro (k | k);exact kb k;exact kc k)]
      obtain ⟨m,em2⟩:∃ m:Nat,o.b=(m:Int):=⟨o.b.toNat,Oo⟩
      rw [em2,Wc]
      rw [em2] at kc
      refine .ite (λk4=>?_) λk4=>?_
      · have k4:o.code=4:=k4
        rw [if_neg Oo] at kc
        rw [if_pos k4]
        refine .atN Oo (.some ?_)
        rw [Wa Oo];rfl
      have k4:¬ o.code=4:=k4
      rw [if_neg k4]
      refine .ite (λk5=>?_) λk5=>?_
      · have k5:o.code=5:=k5
        rw [if_neg Oo] at kc
        rw [if_pos k5]
        refine .call (QbJ h Oo) ?_
        rw [en]
        exact .atN hnl (.atN Oo (.some rfl))
      have k5:¬ o.code=5:=k5
      rw [if_neg k5]
      rw [if_pos Oo] at kc
      refine .ite (λk3=>?_) λk3=>?_
      · rw [if_pos k3]
        refine .call (QbL h _ _) (.ite (λhc=>?_) λhc=>.call (fail _) (.some (by rw [if_neg hc])))
        have hc:Qes g o.c_ false=0:=hc
        rw [if_pos hc]
        refine .call (QbJ h Oo) ?_
        rw [en]
        refine .atN hnl (.call (QbJ h (QdG h hc).2) (.atN Oo (.some rfl)))
      have k3:¬ o.code=3:=k3
      rw [if_neg k3]
      refine .atN Oo ?_
      have hm:m < g.nodes[n].refs.length:=by omega
      simp only [Wa hm,Wy]
      refine .ite (λk=>.some (by rw [if_pos k])) λk=>?_
      rw [if_neg k]
      refine .call (free29_c h) ?_
      cases e:frsG g with
      | none=>exact .pos rfl (.call (fail 15) (.some rfl))
      | some j =>
        have hj:=frsG_lt h e
        have ef:frsV (some j)=((j+1:Nat):Int):=rfl
        rw [ef]
        refine .neg (by show ¬ ((j+1:Nat):Int)=0;omega) ?_
        rw [Qd Oo,show ((j+1:Nat):Int) - 1=(j:Int) by omega]
        refine .atN Oo (.atN Oo (.some ?_))
        unfold rotG
        dsimp only
        rw [Wc,Jd (n:=((j+1:Nat):Int)) Oo]
    · cases hP
  · rcases hP with ⟨hP,_⟩ | hP
    · cases hP
    · injection hP with hP
theorem GOk.rot{g:Gra}(h:GOk g){i:Nat}(hi:i < 32){v:Int}(hv:0<=v/\v < g.nodes.length):GOk ⟨g.nodes,g.used.set i true,g.roots.set i v⟩:=by
 have h1:=h.u
 have h2:=h.v
 refine ⟨by show (g.used.set i true).length=32;rw [Ww];exact h1,by show (g.roots.set i v).length=32;rw [Ww];exact h2,h.n,λj hj=>?_,h.r⟩
 have hj:(g.used.set i true)[j]?=some true:=hj
 show ∃ k:Nat,(g.roots.set i v)[j]?=some (k:Int)/\k < g.nodes.length
 by_cases e:i=j
 ·subst e
  exact ⟨v.toNat,by rw [WB Oo];congr 1;omega,Oo⟩
 ·rw [WA e] at hj ⊢
  exact h.t j hj
theorem GOk.node{g:Gra}(h:GOk g){n:Nat}{nd:Nod}(hnd:nd.refs.length<=15/\nd.data.length<=32/\(∀ v∈nd.refs,v = -1\/(0<=v/\v < g.nodes.length))/\∀ x∈nd.data,U64 x):GOk ⟨g.nodes.set n nd,g.used,g.roots⟩:=by
 refine ⟨h.u,h.v,by show (g.nodes.set n nd).length<=_;rw [Ww];exact h.n,λj hj=>?_,λx hx=>?_⟩
 ·show ∃ k:Nat,g.roots[j]?=some (k:Int)/\k < (g.nodes.set n nd).length
  rw [Ww];exact h.t j hj
 ·show x.refs.length<=15/\x.data.length<=32/\(∀ v∈x.refs,v = -1\/(0<=v/\v < (g.nodes.set n nd).length))/\_
  rw [Ww]
  rcases WR hx with k | k
  ·exact h.r x k
  ·rw [k];exact hnd
theorem GOk.drop{g:Gra}(h:GOk g)(i:Nat):GOk ⟨g.nodes,g.used.set i false,g.roots.set i (-1)⟩:=by
 have h1:=h.u
 have h2:=h.v
 refine ⟨by show (g.used.set i false).length=32;rw [Ww];exact h1,by show (g.roots.set i (-1)).length=32;rw [Ww];exact h2,h.n,λj hj=>?_,h.r⟩
 have hj:(g.used.set i false)[j]?=some true:=hj
 show ∃ k:Nat,(g.roots.set i (-1))[j]?=some (k:Int)/\k < g.nodes.length
 by_cases e:i=j
 ·subst e
  rw [V6] at hj
  simp at hj
 ·rw [WA e] at hj ⊢
  exact h.t j hj
theorem GOk.more{g:Gra}(h:GOk g)(hn:g.nodes.length < 1000000){nd:Nod}(hnd:nd.refs.length<=15/\nd.data.length<=32/\(∀ v∈nd.refs,v = -1)/\∀ x∈nd.data,U64 x):GOk ⟨g.nodes++[nd],g.used,g.roots⟩:=by
 have hl:(g.nodes++[nd]).length=g.nodes.length+1:=by rw [Wn,WE]
 refine ⟨h.u,h.v,by show (g.nodes++[nd]).length<=_;omega,λj hj=>?_,λx hx=>?_⟩
 ·obtain ⟨k,e,hk⟩:=h.t j hj
  exact ⟨k,e,by show k < (g.nodes++[nd]).length;omega⟩
 ·show x.refs.length<=15/\x.data.length<=32/\(∀ v∈x.refs,v = -1\/(0<=v/\v < ((g.nodes++[nd]).length:Int)))/\_
  rw [hl]
  rcases Wk.1 hx with k | k
  ·obtain ⟨a,b,c,e⟩:=h.r x k
   exact ⟨a,b,λv hv=>(c v hv).imp id λq=>by omega,e⟩
  ·rw [Wl.1 k]
   exact ⟨hnd.1,hnd.2.1,λv hv=>.inl (hnd.2.2.1 v hv),hnd.2.2.2⟩
theorem rotG_ok{g:Gra}(h:GOk g){v:Int}(hv:0<=v/\v < g.nodes.length):GOk (rotG g v (frsG g)).1/\(rotG g v (frsG g)).1.nodes=g.nodes:=by
 cases e:frsG g with
 | none=>exact ⟨h,rfl⟩
 | some i=>exact ⟨h.rot (frsG_lt h e) hv,rfl⟩
theorem newG_ok{g:Gra}(h:GOk g)(hn:g.nodes.length < 1000000){a b:Int}(hab:a<=15/\b<=32):GOk (newG g a b (frsG g)).1/\(newG g a b (frsG g)).1.nodes.length<=g.nodes.length+1:=by
 cases e:frsG g with
 | none=>exact ⟨h,by show g.nodes.length<=_;omega⟩
 | some i =>
  have hm:=h.more hn (nd:=⟨List.replicate a.toNat (-1),List.replicate b.toNat 0⟩) ⟨by rw [W8];omega,by rw [W8];omega,λv hv=>(Uu.1 hv).2,λx hx=>by rw [(Uu.1 hx).2];unfold U64;omega⟩
  have hl:(g.nodes++[(⟨List.replicate a.toNat (-1),List.replicate b.toNat 0⟩:Nod)]).length=g.nodes.length+1:=by rw [Wn,WE]
  exact ⟨hm.rot (frsG_lt h e) (v:=(g.nodes.length:Int)) ⟨Oo,by show (g.nodes.length:Int) < ((g.nodes++[_]).length:Int);rw [hl];omega⟩,by show (g.nodes++[_]).length<=_;rw [hl];omega⟩
theorem doG_ok{g:Gra}(h:GOk g)(hn:g.nodes.length < 1000000)(o:AOp):GOk (doG g o).1/\(doG g o).1.nodes.length<=g.nodes.length+1:=by
 have same:GOk g/\g.nodes.length<=g.nodes.length+1:=⟨h,Oo⟩
 unfold doG
 split
 ·split
  ·exact same
  ·rename_i k
   exact newG_ok h hn ⟨Oo,Oo⟩
 split
 ·exact same
 split
 ·exact same
 split
 ·split
  ·split <;> exact same
  ·exact same
 split
 ·split
  ·rename_i ha
   obtain ⟨i,ei,hi,hui⟩:∃ i:Nat,o.a=((i+1:Nat):Int)/\i < 32/\g.used[i]?=some true:=by
    rcases hdlG_0 ha with ⟨_,k⟩ | k
    ·cases k
    ·exact k
   obtain ⟨n,en,hnl⟩:=nodE_i h hui
   rw [<- ei] at en
   have hnd:=h.r _ (Wd hnl)
   rw [en,Wc,Wa hnl]
   dsimp only [Option.getD_some]
   unfold nodG
   split
   ·exact ⟨h.drop _,by show g.nodes.length<=_;omega⟩
   split
   ·exact same
   by_cases hb:o.b < 0\/(if o.code=2\/o.code=3 then (g.nodes[n].refs.length:Int) else (g.nodes[n].data.length:Int))<=o.b
   ·rw [if_pos hb];exact same
   rw [if_neg hb]
   split
   ·exact same
   split
   ·refine ⟨h.node ⟨hnd.1,by show (g.nodes[n].data.set _ _).length<=32;rw [Ww];exact hnd.2.1,hnd.2.2.1,λx hx=>?_⟩,by show (g.nodes.set _ _).length<=_;rw [Ww];omega⟩
    rcases WR hx with k | k
    ·exact hnd.2.2.2 x k
    ·rw [k];exact wu_u _
   split
   ·split
    ·rename_i hc
     refine ⟨h.node ⟨by show (g.nodes[n].refs.set _ _).length<=15;rw [Ww];exact hnd.1,hnd.2.1,λx hx=>?_,hnd.2.2.2⟩,by show (g.nodes.set _ _).length<=_;rw [Ww];omega⟩
     rcases WR hx with k | k
     ·exact hnd.2.2.1 x k
     ·rw [k];exact (QdG h hc).1
    ·exact same
   ·split
    ·exact same
    ·rename_i k7 k9 k4 k5 k3 hv
     have hm:o.b.toNat < g.nodes[n].refs.length:=by
      rename_i hcode
      rw [if_pos Oo] at hb
      omega
     rw [Wa hm] at hv ⊢
     dsimp only [Option.getD_some] at hv ⊢
     have:=hnd.2.2.1 _ (Wd hm)
     obtain ⟨r1,r2⟩:=rotG_ok h (this.resolve_left hv)
     exact ⟨r1,by rw [r2];omega⟩
  ·exact same
 ·exact same
theorem new29_c:∃ g,JV=some g/\GOk g/\g.nodes=[]/\∀ i:Nat,¬ g.used[i]?=some true:=by
 refine ⟨⟨[],List.replicate 32 false,List.replicate 32 (-1)⟩,Gd.eq ?_,?_,rfl,λi hi=>?_⟩
 ·unfold JV
  refine .pos Oo (.pos Oo ?_)
  refine Gd.bind (P:=λb=>b=List.replicate 32 (-1)) ?_ λb hb=>.some (by rw [hb];rfl)
  have hl:(List.replicate (Int.toNat 32) (0:Int)).length=32:=by simp
  rw [hl]
  refine Gd.for 32 (λ(t:List Int) i=>(t,i)) (λi t=>t=List.replicate i (-1)++List.replicate (32 - i) 0) (List.replicate 32 0) rfl (λ_ _=>rfl) Oo Os (λi hi t ht=>?_) (λt ht=>by rw [ht];rfl)
  have hlt:t.length=32:=by rw [ht,Wn,W8,W8];omega
  refine .atN (show i < t.length by omega) (.some (.inl ⟨t.set i (-1),by rw [Wc],?_⟩))
  rw [ht,U1 _ _ (by rw [W8];exact Wo _),W8,V4,show 32 - i=(31 - i)+1 by omega,UF,List.set_cons_zero,Ya,WX,show 32 - (i+1)=31 - i by omega]
  rfl
 ·refine ⟨Os,Os,Os,λi hi=>?_,λnd hnd=>by cases hnd⟩
  have hi:(List.replicate 32 false)[i]?=some true:=hi
  rw [VS] at hi
  split at hi <;> cases hi
 ·have hi:(List.replicate 32 false)[i]?=some true:=hi
  rw [VS] at hi
  split at hi <;> cases hi
theorem QZ{d:Qc}(h:Xu d){n:Int}(hn:1<=n/\n<=9223372036854775807):Gd (λr=>(0<=r.1/\r.1 < n)/\Xu r.2) (Qb d n):=by
 obtain ⟨v,d',e,h1,h2,h3⟩:=next_spec h hn
 exact ⟨(v,d'),e,⟨h1,h2⟩,h3⟩
theorem op1_g{d:Qc}(h:Xu d){c:List Int}(hc:∀ x∈c,0<=x/\x<=64)(hl:c.length<=64):Gd (λr=>(0<=r.1/\r.1<=64)/\r.2.1=c/\Xu r.2.2) (QW c d):=by
 unfold QW
 refine .ite (λk=>?_) λk=>?_
 ·refine .bind (QZ h Oo) λr hr=>.some ⟨Oo,rfl,hr.2⟩
 ·refine .bind (QZ h Oo) λr hr=>.ite (λk0=>?_) λk0=>?_
  ·refine .bind (QZ hr.2 Oo) λr2 hr2=>.some ⟨Oo,rfl,hr2.2⟩
  ·refine .bind (QZ hr.2 Oo) λr2 hr2=>?_
   have h1:=hr2.1
   refine .at h1.1 Oo (.some ⟨hc _ (Wd _),rfl,hr2.2⟩)
theorem op_g{d:Qc}(h:Xu d){g:Gra}(hg:GOk g):Gd (λr=>OpI r.1/\Xu r.2) (QbE d g):=by
 have hu:=hg.u
 unfold QbE
 refine Gd.bind (P:=λb:List Int=>(∀ x∈b,0<=x/\x<=64)/\b.length<=64) ?_ λc hc=>?_
 ·refine Gd.for g.used.length (λ(t:List Int) i=>(t,i)) (λi t=>t.length<=i/\∀ x∈t,0<=x/\x<=64) [] rfl (λ_ _=>rfl) Oo ⟨Os,λx hx=>by cases hx⟩ (λi hi t ht=>?_) (λt ht=>⟨ht.2,by have:=ht.1;show t.length<=64;omega⟩)
  have ht1:=ht.1
  refine .atN hi (.ite (λk=>.pos (XD (l:=t) Oo Oo) (.some (.inl ⟨t++[w64 ((i:Int)+1)],rfl,by rw [Wn,WE];omega,λx hx=>?_⟩))) λk=>.some (.inl ⟨t,rfl,Oo,ht.2⟩))
  rcases Wk.1 hx with q | q
  ·exact ht.2 x q
  ·rw [Wl.1 q,Qd Oo];omega
 refine .bind (QZ h Oo) λr13 h13=>?_
 have k13:=h13.1
 refine .at k13.1 (by simp only [WP,VL];omega) ?_
 refine Gd.bind (P:=λ_=>True) ?_ λb15 _=>?_
 ·exact .ite (λ_=>.ite (λ_=>.some trivial) λ_=>.some trivial) λ_=>.some trivial
 refine .ite (λ_=>?_) λ_=>?_
 ·refine .bind (QZ h13.2 Oo) λr21 h21=>.bind (QZ h21.2 Oo) λr22 h22=>?_
  have k22:=h22.1
  refine Gd.bind (P:=λv=>1<=v/\v<=17) ?_ λv hv=>?_
  ·have hl:r22.1.toNat < ([3,3,8,17]:List Int).length:=by simp only [WP,VL];omega
   have e:=at_int (l:=([3,3,8,17]:List Int)) k22.1 hl
   refine ⟨_,e,?_⟩
   have hm:=Wd hl
   generalize ([3,3,8,17]:List Int)[r22.1.toNat]=y at hm
   simp only [Wv,Vr,or_false] at hm
   omega
  ·refine .bind (QZ h22.2 Oo) λr24 h24=>.some ⟨⟨?_⟩,h24.2⟩
   have:=h24.1
   show I64 r24.1
   unfold I64;omega
 refine Gd.bind (P:=λ_=>True) ?_ λb25 _=>?_
 ·exact .ite (λ_=>.some trivial) λ_=>.some trivial
 refine .ite (λ_=>?_) λ_=>.ite (λ_=>?_) λ_=>.ite (λ_=>?_) λ_=>.ite (λ_=>?_) λ_=>.ite (λ_=>?_) λ_=>.ite (λ_=>?_) λ_=>.some ⟨⟨by show I64 0;unfold I64;omega⟩,h13.2⟩
 ·refine .bind (op1_g h13.2 hc.1 hc.2) λr29 h29=>.bind (QZ h29.2.2 Oo) λr30 h30=>.some ⟨⟨?_⟩,h30.2⟩
  have:=h30.1
  show I64 r30.1
  unfold I64;omega
 ·refine .bind (op1_g h13.2 hc.1 hc.2) λr29 h29=>.bind (QZ h29.2.2 Oo) λr30 h30=>?_
  rw [h29.2.1]
  refine .bind (op1_g h30.2 hc.1 hc.2) λr31 h31=>.some ⟨⟨?_⟩,h31.2.2⟩
  have:=h30.1
  show I64 r30.1
  unfold I64;omega
 ·refine .bind (op1_g h13.2 hc.1 hc.2) λr29 h29=>.bind (QZ h29.2.2 Oo) λr30 h30=>.bind (QZ h30.2 Oo) λr31 h31=>.some ⟨⟨?_⟩,h31.2⟩
  have:=h30.1
  show I64 r30.1
  unfold I64;omega
 ·refine .bind (op1_g h13.2 hc.1 hc.2) λr29 h29=>?_
  rw [h29.2.1]
  refine .bind (op1_g h29.2.2 hc.1 hc.2) λr31 h31=>.some ⟨⟨?_⟩,h31.2.2⟩
  have:=h31.1
  show I64 r31.1
  unfold I64;omega
 ·refine .bind (op1_g h13.2 hc.1 hc.2) λr29 h29=>.some ⟨⟨by show I64 0;unfold I64;omega⟩,h29.2.2⟩
 ·refine .bind (op1_g h13.2 hc.1 hc.2) λr29 h29=>.some ⟨⟨by show I64 0;unfold I64;omega⟩,h29.2.2⟩
end Go.Proofs.YthpnlnjdmlbnaaaGreatDoor
