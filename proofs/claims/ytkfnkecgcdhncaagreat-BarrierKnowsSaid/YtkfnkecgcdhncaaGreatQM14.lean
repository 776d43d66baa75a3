/- Parts of the proof. No condition. -/
import Derived.Test.YtkfnkecgcdhncaaGreatQM0
import Derived.Test.YtkfnkecgcdhncaaGreatQM13
namespace Go.Proofs.YtkfnkecgcdhncaaGreat
open Go.RowKit
set_option linter.unusedSimpArgs false
set_option linter.unusedVariables false
section
variable{s0:Sp}{C K:List Itm}{T0:Itm}{sn sk:Nat}{st:EvS}{T:Itm}{M:List (Nat×Nat×Nat)}
theorem EvB.start(hC:EvB s0 C K T0):J1 s0 C K T0 0 0 ⟨s0,T0.i,[]⟩ T0 []:=by
 have hw:=hC.t0.inc.wd
 &⟨rfl,rfl,rfl,hC.ok,hC.w,rfl,⟨0,Os,Os⟩,hC.t0.inc,⟨rfl,rfl,by simp [szM];omega⟩,Os,rfl,λx hx=>?_,hC.own,λo h=>absurd h (Vx),Os,λ_ _ _ _ _=>rfl,λo h=>absurd h (Vx),λ_ _ _ _=>rfl,λ_ _=>rfl,λo h=>absurd h (Vx),λo h=>absurd h (Vx),λn o h=>by simp [nob] at h⟩
 rcases Wn.1 hx with h | h
 ·~(hC.cs x h).inc.toIncC
 ·~(hC.ks x h).inc.toIncC
theorem ev_len(hC:EvB s0 C K T0)(h:J1 s0 C K T0 sn sk st T M):M.length<=16384/\st.mv.length=M.length:=by
 have h1:=ev_sum hC h.src h.nd
 have h2:=sumN_16 hC
 have h3:∀ (M:List (Nat×Nat×Nat)),M.length<=szM M:=by
  intro M
  induction M with
  | nil=>~Wl _
  | cons o M ih=>ð⟨a,r,d⟩:=o;show M.length+1<=1+r+d+szM M;omega
 &⟨by have:=h3 M;omega,?_⟩
 rw [h.mv]
 unfold QfZ
 rw [Wb,Qeq]
theorem ev_adr(h:J1 s0 C K T0 sn sk st T M){q:Nat}(hq:q<T.fr.length*szS s0):adr (szS s0) T.fr q<st.s.ws.length:=by
 have:=Jo h.ok.shp h.inc.ch.lt (p:=q) (by rw [h.z];~hq)
 rwa [h.z] at this
theorem ev_moveB(hC:EvB s0 C K T0)(h:J1 s0 C K T0 sn sk st T M)(hsn:sn<=M.length/\(sk=0\/sn<M.length)){x:Int}(hx:U64 x)(hr:RefOk s0 C x)
  (hroom:∀ r d,QdJ s0 (C.map Itm.i) x->ObjZ (szS s0) C (x-1).toNat r d->(x-1).toNat∉M.map (·.1)->r<=15->d<=32->exN st.s T.i (1+(r:Int)+d)<=(Qk st.s.fs).length) :
  MvP (C.map Itm.i) st T.fr x/\∃ T' N,J1 s0 C K T0 sn sk (mv1 (C.map Itm.i) st x).1 T' (M++N)/\ImgP s0 C (mv1 (C.map Itm.i) st x).1.mv x (mv1 (C.map Itm.i) st x).2/\U64 (mv1 (C.map Itm.i) st x).2/\(∃ l,T'.fr=T.fr++l)/\∃ l,(mv1 (C.map Itm.i) st x).1.mv=st.mv++l:=by
 ð⟨hl1,hl2⟩:=ev_len hC h
 have hcl:=hC.len
 have hwl:=Z7 h.ok
 by_cases hw:QdJ st.s (C.map Itm.i) x
 ·have hw0:=(ev_win hC h x).1 hw
  ð⟨r,d,y,hy,p,ho,ea⟩:=hr hw0
  ð⟨⟨n0,n1⟩,_⟩:=id hw
  unfold U64 at hx
  have ex:x-1=((adr (szS s0) y.fr p:Nat):Int):=by omega
  ð⟨hrm,r15,d32,hhd⟩:=Itm.posOk hC.ok (hC.cs y hy) ho
  ð⟨s,to,mv⟩:=st
  have eto:to=T.i:=h.to
  subst eto
  by_cases hm:adr (szS s0) y.fr p∈M.map (·.1)
  ·
   rw [<- nob_fst M T0.i.words.toNat] at hm
   ð⟨o,hom,eo⟩:=Wk.1 hm
   have hcf:=h.cf o hom
   have hin:=J4 M _ o hom
   have hroom:=QcB h
   have hal:=ev_adr h (q:=o.2.1) Oo
   have ewa:wAt s (x-1)=fwdW ((adr (szS s0) T.fr o.2.1:Nat):Int):=by rw [ex,<- eo];~Jk hcf
   have edr:JD (wAt s (x-1))=⟨0,0,((adr (szS s0) T.fr o.2.1:Nat):Int),true,0⟩:=by rw [ewa];~DecR_fwd (by dsimp only at hal hwl;omega)
   have em:mv1 (C.map Itm.i) ⟨s,T.i,mv⟩ x=(⟨s,T.i,mv⟩,((adr (szS s0) T.fr o.2.1:Nat):Int)+1):=by
    unfold mv1
    dsimp only
    rw [if_pos hw,edr,if_pos rfl]
   rw [em]
   &⟨⟨h.ok,h.w,h.inc,hx,by rw [Wb];omega,Oo,λ_=>⟨?_,λk=>?_⟩⟩,T,[],by rw [Vl];~h,.inr ⟨hw0,⟨(o.1:Int),((adr (szS s0) T.fr o.2.1:Nat):Int)⟩,?_,?_,rfl⟩,?_,⟨[],Os⟩,⟨[],Os⟩⟩
   ·show (JD (wAt s (x-1))).e=0
    rw [edr]
   ·change (JD (wAt s (x-1))).mv=false at k
    rw [edr] at k;cases k
   ·rw [h.mv]
    ~Wk.2 ⟨o,hom,rfl⟩
   ·show (o.1:Int)=x-1
    rw [ex,<- eo]
   ·unfold U64;dsimp only at hal hwl;omega
  ·
   have exn:(x-1).toNat=adr (szS s0) y.fr p:=by omega
   ð⟨src,hl,hI,hb,hb2⟩:=ev_new hC h hsn hy ho hm (hroom r d hw0 (exn▸⟨y,hy,p,ho,rfl⟩) (by rw [exn];~hm) r15 d32)
   dsimp only at src hl hI hb hb2
   have hcw:s.ws[adr (szS s0) y.fr p]?=some (hdW r d):=by rw [<- hhd];~h.cw y hy p Oo hm
   have ewa:wAt s (x-1)=hdW r d:=by rw [ex];~Jk hcw
   have edr:JD (wAt s (x-1))=⟨r,d,0,false,0⟩:=by rw [ewa];~DecR_hd ⟨Oo,Oo,Oo,Oo⟩
   have elk:Qy s (x-1)=⟨r,d,0⟩:=by rw [ex];~src.look h.ok
   have em:mv1 (C.map Itm.i) ⟨s,T.i,mv⟩ x=(mvS ⟨s,T.i,mv⟩ ((adr (szS s0) y.fr p:Nat):Int) r d,mvA ⟨s,T.i,mv⟩ r d+1):=by
    unfold mv1
    dsimp only
    rw [if_pos hw,edr,if_neg Os,elk,ex]
   rw [em]
   &⟨⟨h.ok,h.w,h.inc,hx,by rw [Wb];omega,Oo,λ_=>⟨?_,λ_=>?_⟩⟩,_,_,hI,.inr ⟨hw0,⟨((adr (szS s0) y.fr p:Nat):Int),mvA ⟨s,T.i,mv⟩ r d⟩,Wj _ (Wo.2 rfl),ex.symm,rfl⟩,?_,⟨_,rfl⟩,⟨_,rfl⟩⟩
   ·show (JD (wAt s (x-1))).e=0
    rw [edr]
   ·&⟨y.fr,p,r,d,?_,hl⟩
    rw [ex]
    ~src
   ·unfold U64;rw [hb] at hb2 ⊢;omega
 ·have em:mv1 (C.map Itm.i) st x=(st,x):=by unfold mv1;rw [if_neg hw]
  rw [em]
  ~⟨⟨h.ok,h.w,h.to▸h.inc,hx,by rw [Wb];omega,Oo,λk=>absurd k hw⟩,T,[],by rw [Vl];~h,.inl ⟨λk=>hw ((ev_win hC h x).2 k),rfl⟩,hx,⟨[],Os⟩,⟨[],Os⟩⟩
theorem ev_move(hC:EvC s0 C K T0)(h:J1 s0 C K T0 sn sk st T M)(hsn:sn<=M.length/\(sk=0\/sn<M.length)){x:Int}(hx:U64 x)(hr:RefOk s0 C x) :
  MvP (C.map Itm.i) st T.fr x/\∃ T' N,J1 s0 C K T0 sn sk (mv1 (C.map Itm.i) st x).1 T' (M++N)/\ImgP s0 C (mv1 (C.map Itm.i) st x).1.mv x (mv1 (C.map Itm.i) st x).2/\U64 (mv1 (C.map Itm.i) st x).2/\(∃ l,T'.fr=T.fr++l)/\∃ l,(mv1 (C.map Itm.i) st x).1.mv=st.mv++l:=ev_moveB hC.toEvB h hsn hx hr λr d _ h1 h2 h3 h4=>ev_budget hC h h1 h2 h3 h4
theorem ev_set(hC:EvB s0 C K T0)(h:J1 s0 C K T0 sn sk st T M){o:Nat×Nat×Nat×Nat}(hj:(nob T0.i.words.toNat M)[sn]?=some o)(hk:sk+1<=o.2.2.1){w v:Int}(hv:U64 v)(hw:s0.ws[srcA s0 o.1 (sk+1)]?=some w)(hi:ImgP s0 C st.mv w v) :
  J1 s0 C K T0 sn (sk+1) ⟨setS st.s ((adr (szS s0) T.fr (o.2.1+(sk+1)):Nat):Int) v,st.to,st.mv⟩ T M:=by
 have hz:=hC.z0
 have hroom:=QcB h
 have hom:=Wp hj
 have hin:=J4 M _ o hom
 have hq:o.2.1+(sk+1)<T.fr.length*szS s0:=by omega
 have hlt:=ev_adr h hq
 have e1:∀ x,x≠adr (szS s0) T.fr (o.2.1+(sk+1))->(setS st.s ((adr (szS s0) T.fr (o.2.1+(sk+1)):Nat):Int) v).ws[x]?=st.s.ws[x]?:=λx hx=>by
  show (st.s.ws.set (((adr (szS s0) T.fr (o.2.1+(sk+1)):Nat):Int)).toNat v)[x]?=_
  rw [Wd,WC (λe=>hx e.symm)]
 have e2:(setS st.s ((adr (szS s0) T.fr (o.2.1+(sk+1)):Nat):Int) v).ws[adr (szS s0) T.fr (o.2.1+(sk+1))]?=some v:=by
  show (st.s.ws.set (((adr (szS s0) T.fr (o.2.1+(sk+1)):Nat):Int)).toNat v)[_]?=_
  rw [Wd,WD hlt]
 have el:(setS st.s ((adr (szS s0) T.fr (o.2.1+(sk+1)):Nat):Int) v).ws.length=st.s.ws.length:=setS_len _ _ _
 have hne:∀ q,q<T.fr.length*szS s0->q≠o.2.1+(sk+1)->adr (szS s0) T.fr q≠adr (szS s0) T.fr (o.2.1+(sk+1)):=λq h1 h2 e=>h2 (Qbr Oo h.inc.nd h1 hq e)
 have hneX:∀ x∈C++K,∀ q,q<x.fr.length*szS s0->adr (szS s0) x.fr q≠adr (szS s0) T.fr (o.2.1+(sk+1)):=λx hx q h1=>QeQ Oo ((h.oth x hx).disj h.inc.toIncC (by rw [h.sq.1];~hC.sqT x hx)) h1 hq
 have hT:=h.inc
 &⟨h.sh,el.trans h.wl,h.fl,?_,⟨λx hx=>?_,h.w.2⟩,h.to,h.fr,⟨hT.toIncC,by rw [el];~hT.wd,hT.len⟩,h.sq,h.os,h.mv,h.oth,h.own,h.src,h.nd,?_,?_,?_,?_,?_,?_,?_⟩
 ·&sp_ws h.ok el λk hk' h0 a h1 h2 e=>?_
  have:=e1 a λea=>?_
  ·~VD ((Wa h2).symm.trans (this.trans (Wa h1)))
  ·have hm:=adr_fr Oo hq
   rw [<- ea,<- h.z,e] at hm
   ~hT.own k hm hk' h0
 ·rcases W4 hx with hx | rfl
  ·~h.w.1 x hx
  ·~hv
 ·~λx hx q h1 h2=>(e1 _ (hneX x (Wf _ hx) q h1)).trans (h.cw x hx q h1 h2)
 ·intro o' ho'
  ð⟨x,hx,q,hq',e⟩:=h.src _ (QfX M _ o' ho')
  have hq2:=(Itm.posOk hC.ok (hC.cs x hx) hq').1
  dsimp only at e
  &(e1 _ ?_).trans (h.cf o' ho')
  rw [e]
  ~hneX x (Wf _ hx) _ Oo
 ·~λx hx q h1=>(e1 _ (hneX x (Wj _ hx) q h1)).trans (h.kw x hx q h1)
 ·~λq h1=>(e1 _ (hne q Oo Oo)).trans (h.tw q h1)
 ·intro o' ho'
  have hin':=J4 M _ o' ho'
  &(e1 _ (hne _ Oo λe=>?_)).trans (h.hd o' ho')
  ð⟨j,hj'⟩:=Vd.1 ho'
  have hs:=nob_sep M T0.i.words.toNat
  ð⟨l1,g1⟩:=Wq.1 hj
  ð⟨l2,g2⟩:=Wq.1 hj'
  rcases UR sn j with c | c | c
  ·have:=Wy.1 hs sn j l1 l2 c
   rw [g1,g2] at this;omega
  ·subst c;rw [hj] at hj';injection hj' with hj';subst hj';omega
  ·have:=Wy.1 hs j sn l2 l1 c
   rw [g1,g2] at this;omega
 ·intro o' ho' k h1 h2
  have hin':=J4 M _ o' ho'
  &(e1 _ (hne _ Oo λe=>?_)).trans (h.dat o' ho' k h1 h2)
  ð⟨j,hj'⟩:=Vd.1 ho'
  have hs:=nob_sep M T0.i.words.toNat
  ð⟨l1,g1⟩:=Wq.1 hj
  ð⟨l2,g2⟩:=Wq.1 hj'
  rcases UR sn j with c | c | c
  ·have:=Wy.1 hs sn j l1 l2 c
   rw [g1,g2] at this;omega
  ·subst c;rw [hj] at hj';injection hj' with hj';subst hj';omega
  ·have:=Wy.1 hs j sn l2 l1 c
   rw [g1,g2] at this;omega
 ·intro j o' hj' k h1 h2
  have ho':=Wp hj'
  have hin':=J4 M _ o' ho'
  have hold:=h.ref j o' hj' k h1 h2
  by_cases hh:j=sn/\k=sk+1
  ·ð⟨rfl,rfl⟩:=hh
   rw [hj] at hj';injection hj' with hj';subst hj'
   rw [if_pos (.inr ⟨rfl,Wl _⟩)]
   ~⟨w,v,hw,e2,hi⟩
  ·have hpos:o'.2.1+k≠o.2.1+(sk+1):=λe=>by
    have hs:=nob_sep M T0.i.words.toNat
    ð⟨l1,g1⟩:=Wq.1 hj
    ð⟨l2,g2⟩:=Wq.1 hj'
    rcases UR sn j with c | c | c
    ·have:=Wy.1 hs sn j l1 l2 c
     rw [g1,g2] at this;omega
    ·subst c;rw [hj] at hj';injection hj' with hj';subst hj';omega
    ·have:=Wy.1 hs j sn l2 l1 c
     rw [g1,g2] at this;omega
   have ew:=e1 _ (hne (o'.2.1+k) Oo hpos)
   by_cases hc:j<sn\/(j=sn/\k<=sk)
   ·rw [if_pos hc] at hold
    rw [if_pos Oo]
    ð⟨w',v',q1,q2,q3⟩:=hold
    ~⟨w',v',q1,ew.trans q2,q3⟩
   ·rw [if_neg hc] at hold
    rw [if_neg Oo]
    ~ew.trans hold
theorem ev_next(h:J1 s0 C K T0 sn sk st T M){o:Nat×Nat×Nat×Nat}(hj:(nob T0.i.words.toNat M)[sn]?=some o)(hk:sk=o.2.2.1):J1 s0 C K T0 (sn+1) 0 st T M:=by
 ð⟨a1,a2,a3,a4,a5,a6,a7,a8,a9,b1,b2,b3,b4,b5,b6,b7,b8,b9,c1,c2,c3,c4⟩:=h
 &⟨a1,a2,a3,a4,a5,a6,a7,a8,a9,b1,b2,b3,b4,b5,b6,b7,b8,b9,c1,c2,c3,λj o' hj' k h1 h2=>?_⟩
 have hold:=c4 j o' hj' k h1 h2
 by_cases hc:j<sn\/(j=sn/\k<=sk)
 ·rw [if_pos hc] at hold
  rw [if_pos Oo]
  ~hold
 ·rw [if_neg hc] at hold
  rw [if_neg ?_]
  ·~hold
  ·rintro (q | ⟨_,q⟩)
   ·have:j=sn:=by omega
    subst this
    rw [hj] at hj';injection hj' with hj';subst hj'
    omega
   ·omega
theorem ev_fields(hC:EvB s0 C K T0)(h:J1 s0 C K T0 sn sk st T M){o:Nat×Nat×Nat×Nat}(ho:o∈nob T0.i.words.toNat M) :
  Qb7 st.s ((adr (szS s0) T.fr o.2.1:Nat):Int)=((List.range o.2.2.1).map λj=>((adr (szS s0) T.fr (o.2.1+(j+1)):Nat):Int),0)/\Qy st.s ((adr (szS s0) T.fr o.2.1:Nat):Int)=⟨o.2.2.1,o.2.2.2,0⟩:=by
 have hz:=hC.z0
 have hroom:=QcB h
 have hin:=J4 M _ o ho
 ð⟨x,hx,q,hq',e⟩:=h.src _ (QfX M _ o ho)
 ð⟨_,r15,d32,_⟩:=Itm.posOk hC.ok (hC.cs x hx) hq'
 have hl:=(Qdo h.ok h.inc.ch h.inc.own (p:=o.2.1) (r:=o.2.2.1) (d:=o.2.2.2) (by rw [h.z];omega) r15 d32 (by rw [h.z];~h.hd o ho)).1
 rw [h.z] at hl
 &⟨?_,hl⟩
 unfold Qb7
 rw [hl,if_pos rfl]
 &congrArg (λl=>(l,(0:Int))) ?_
 unfold fldL
 rw [Wd]
 &WW λj hjm=>?_
 rw [Wz] at hjm
 have:=go_k (k:=j+1) h.ok.shp h.inc.ch h.inc.own (p:=o.2.1) (by rw [h.z];omega)
 rw [h.z] at this
 rw [show (1+(j:Int))=((j+1:Nat):Int) by omega,this]
end
noncomputable def runW(l:List Inc)(st:EvS)(ws:List Int):EvS×List Int:=ws.foldl (λp x=>((mv1 l p.1 x).1,p.2++[(mv1 l p.1 x).2])) (st,[])
noncomputable def fldSt(l:List Inc)(st:EvS)(q:Int):EvS:=⟨setS (mv1 l st (wAt st.s q)).1.s q (mv1 l st (wAt st.s q)).2,(mv1 l st (wAt st.s q)).1.to,(mv1 l st (wAt st.s q)).1.mv⟩
noncomputable def Qcr(l:List Inc)(st:EvS)(k:Nat):EvS:=match st.mv[k]? with
 | none=>st
 | some m=>(Qb7 st.s m.to).1.foldl (fldSt l) st
noncomputable def scanN(l:List Inc):Nat->Nat->EvS->EvS
 | 0,k,st=>st
 | f+1,k,st=>if k<st.mv.length then scanN l f (k+1) (Qcr l st k) else st
noncomputable def runE(l:List Inc)(s:Sp)(to:Inc)(ws:List Int):EvS×List Int:=(scanN l 20000 0 (runW l ⟨s,to,[]⟩ ws).1,(runW l ⟨s,to,[]⟩ ws).2)
theorem nob_append:∀ (M N:List (Nat×Nat×Nat)) (p:Nat),nob p (M++N)=nob p M++nob (p+szM M) N
 | [],N,p=>by simp [nob,szM]
 | (b,r,d) :: M,N,p=>by
  show (b,p,r,d) :: nob (p+1+r+d) (M++N)=(b,p,r,d) :: (nob (p+1+r+d) M++nob (p+(1+r+d+szM M)) N)
  rw [nob_append M,show p+1+r+d+szM M=p+(1+r+d+szM M) by omega]
theorem nob_pre{M N:List (Nat×Nat×Nat)}{p j:Nat}{o:Nat×Nat×Nat×Nat}(h:(nob p M)[j]?=some o):(nob p (M++N))[j]?=some o:=by
 rw [nob_append,WM (Wq.1 h).1]
 ~h
structure EvR(s0:Sp)(C K:List Itm)(T0:Itm)(words:List Int)(st:EvS)(out:List Int)(T:Itm)(M:List (Nat×Nat×Nat)):Prop where
 inv:J1 s0 C K T0 M.length 0 st T M
 len:out.length=words.length
 img:∀ (j:Nat) (w v:Int),words[j]?=some w->out[j]?=some v->ImgP s0 C st.mv w v
 u:∀ v∈out,U64 v
section
variable{s0:Sp}{C K:List Itm}{T0:Itm}
theorem ev_field(hC:EvC s0 C K T0){k j:Nat}{st:EvS}{T:Itm}{M:List (Nat×Nat×Nat)}(h:J1 s0 C K T0 k j st T M){o:Nat×Nat×Nat×Nat}(hj:(nob T0.i.words.toNat M)[k]?=some o)(hk:j+1<=o.2.2.1){q:Int}(hq:q=((adr (szS s0) T.fr (o.2.1+(j+1)):Nat):Int)) :
  MvP (C.map Itm.i) st T.fr (wAt st.s q)/\0<=q/\q.toNat<st.s.ws.length/\(mv1 (C.map Itm.i) st (wAt st.s q)).1.s.ws.length=st.s.ws.length/\(mv1 (C.map Itm.i) st (wAt st.s q)).1.s.fs.length=st.s.fs.length/\∃ T' N,J1 s0 C K T0 k (j+1) (fldSt (C.map Itm.i) st q) T' (M++N)/\(∃ l,T'.fr=T.fr++l)/\∃ l,(fldSt (C.map Itm.i) st q).mv=st.mv++l:=by
 have hz:=hC.toEvB.z0
 have hroom:=QcB h
 have hom:=Wp hj
 have hin:=J4 M _ o hom
 have hkl:k<M.length:=by have:=(Wq.1 hj).1;rwa [Qeq] at this
 have hql:=ev_adr h (q:=o.2.1+(j+1)) Oo
 have hcur:=h.ref k o hj (j+1) Oo hk
 rw [if_neg Oo] at hcur
 obtain ⟨w,hw⟩:∃ w,st.s.ws[adr (szS s0) T.fr (o.2.1+(j+1))]?=some w:=⟨_,Wa hql⟩
 have ew:wAt st.s q=w:=by rw [hq];~Jk hw
 rw [hw] at hcur
 ð⟨x,hx,p,hp,e⟩:=h.src _ (QfX M _ o hom)
 dsimp only at e
 have hu:U64 w:=h.w.1 w (Wp hw)
 have hsrc:srcA s0 o.1 (j+1)=adr (szS s0) x.fr (p+(j+1)):=by rw [e];~srcA_at hC.toEvB hx hp (by show j+1<=o.2.2.1+o.2.2.2;omega)
 have hr:RefOk s0 C w:=hC.refs x hx p _ _ hp (j+1) Oo hk w (by rw [<- hsrc];~hcur.symm)
 ð⟨m1,T',N,m2,m3,m4,⟨l,m5⟩,m6⟩:=ev_move hC h ⟨Oo,.inr hkl⟩ hu hr
 rw [ew]
 &⟨m1,Oo,by rw [hq,Wd];~hql,m2.wl.trans h.wl.symm,m2.fl.trans h.fl.symm,T',N,?_,⟨l,m5⟩,by unfold fldSt;rw [ew];~m6⟩
 have:=ev_set hC.toEvB m2 (nob_pre hj) hk m4 hcur.symm m3
 unfold fldSt
 rw [ew,hq]
 have ea:adr (szS s0) T'.fr (o.2.1+(j+1))=adr (szS s0) T.fr (o.2.1+(j+1)):=by rw [m5];~Xg Oo Oo
 rw [ea] at this
 ~this
set_option maxHeartbeats 1000000 in
theorem run_c(hC:EvC s0 C K T0){words:List Int}(hwd:∀ w∈words,U64 w/\RefOk s0 C w)(hwn:words.length<=100000) :
  XH s0 (C.map Itm.i) T0.i words=some ((runE (C.map Itm.i) s0 T0.i words).1.to,(runE (C.map Itm.i) s0 T0.i words).1.mv,(runE (C.map Itm.i) s0 T0.i words).2,0,(runE (C.map Itm.i) s0 T0.i words).1.s.ws,(runE (C.map Itm.i) s0 T0.i words).1.s.fs) /\
   ∃ T M,EvR s0 C K T0 words (runE (C.map Itm.i) s0 T0.i words).1 (runE (C.map Itm.i) s0 T0.i words).2 T M:=by
 generalize hL:C.map Itm.i=L
 suffices h:Gd (λr=>r=((runE L s0 T0.i words).1.to,(runE L s0 T0.i words).1.mv,(runE L s0 T0.i words).2,(0:Int),(runE L s0 T0.i words).1.s.ws,(runE L s0 T0.i words).1.s.fs)/\∃ T M,EvR s0 C K T0 words (runE L s0 T0.i words).1 (runE L s0 T0.i words).2 T M) (XH s0 L T0.i words) by
  ð⟨r,h1,rfl,h2⟩:=h
  ~⟨h1,h2⟩
 unfold XH
 let mk1:EvS×List Int->Int->List Int×List Fe×Int×List Inc×Int×Int×Int×Int×Int×List Mov×Int×List Int×Int:=λt i=>(t.1.s.ws,t.1.s.fs,t.1.s.sh,L,t.1.to.seq,t.1.to.belt,t.1.to.first,t.1.to.last,t.1.to.words,t.1.mv,0,t.2,i)
 &Gd.bind (P:=λb=>b=((runW L ⟨s0,T0.i,[]⟩ words).1.s.ws,(runW L ⟨s0,T0.i,[]⟩ words).1.s.fs,(runW L ⟨s0,T0.i,[]⟩ words).1.s.sh,L,(runW L ⟨s0,T0.i,[]⟩ words).1.to.seq,(runW L ⟨s0,T0.i,[]⟩ words).1.to.belt,(runW L ⟨s0,T0.i,[]⟩ words).1.to.first,(runW L ⟨s0,T0.i,[]⟩ words).1.to.last,(runW L ⟨s0,T0.i,[]⟩ words).1.to.words,(runW L ⟨s0,T0.i,[]⟩ words).1.mv,(0:Int),(runW L ⟨s0,T0.i,[]⟩ words).2) /\
   (∃ T M,J1 s0 C K T0 0 0 (runW L ⟨s0,T0.i,[]⟩ words).1 T M)/\(runW L ⟨s0,T0.i,[]⟩ words).2.length=words.length/\(∀ (j:Nat) (w v:Int),words[j]?=some w->(runW L ⟨s0,T0.i,[]⟩ words).2[j]?=some v->ImgP s0 C (runW L ⟨s0,T0.i,[]⟩ words).1.mv w v)/\∀ v∈(runW L ⟨s0,T0.i,[]⟩ words).2,U64 v) ?_ λb hb=>?_
 ·&Gd.fold words mk1 (λp x=>((mv1 L p.1 x).1,p.2++[(mv1 L p.1 x).2])) (⟨s0,T0.i,[]⟩,[]) (λi p=>(∃ T M,J1 s0 C K T0 0 0 p.1 T M)/\p.2.length=i/\(∀ (j:Nat) (w v:Int),words[j]?=some w->p.2[j]?=some v->ImgP s0 C p.1.mv w v)/\∀ v∈p.2,U64 v) rfl (λ_ _=>rfl) Oo
   ⟨⟨T0,[],hC.toEvB.start⟩,rfl,λj w v _ h=>by simp at h,λv h=>absurd h (Vx)⟩ (λi hi p hp=>?_) (λhp=>⟨rfl,hp⟩)
  ð⟨⟨T,M,hI⟩,hlen,himg,hu⟩:=hp
  ð⟨hx1,hx2⟩:=hwd _ (Wc hi)
  ð⟨m1,T',N,m2,m3,m4,_,⟨l,m6⟩⟩:=ev_move hC hI ⟨WT _,.inl rfl⟩ hx1 hx2
  rw [hL] at m1 m2 m3 m4 m6
  &⟨⟨⟨T',M++N,m2⟩,by rw [We,WK,hlen],λj w v h1 h2=>?_,λv hv=>?_⟩,?_⟩
  ·dsimp only at h2 ⊢
   rcases Ws j p.2.length with c | c
   ·rw [WM c] at h2
    ~(himg j w v h1 h2).mono λm hm=>by rw [m6];~Wf _ hm
   ·rw [WO c] at h2
    have:j=i:=by
     rcases Ws (j-p.2.length) 1 with q | q
     ·omega
     ·rw [Wg (by simpa using q)] at h2;cases h2
    subst this
    rw [hlen,Ui] at h2
    injection h2 with h2
    rw [Wa hi] at h1
    injection h1 with h1
    rw [<- h1,<- h2]
    ~m3
  ·rcases Wn.1 hv with hv | hv
   ·~hu v hv
   ·rw [Wo.1 hv];~m4
  ·&.atN hi ?_
   &.call (move_c m1) ?_
   &.pos (show (mv1 L p.1 words[i]).1.s.ws.length=p.1.s.ws.length from m2.wl.trans hI.wl.symm) (.pos (show (mv1 L p.1 words[i]).1.s.fs.length=p.1.s.fs.length from m2.fl.trans hI.fl.symm) (.pos (X9 (l:=p.2) Oo Oo) (.some rfl)))
 ð⟨rfl,⟨T1,M1,hI1⟩,hlen,himg,hu⟩:=hb
 let mk2:EvS->Int->List Int×List Fe×Int×List Inc×Int×Int×Int×Int×Int×List Mov×Int×Int:=λt i=>(t.s.ws,t.s.fs,t.s.sh,L,t.to.seq,t.to.belt,t.to.first,t.to.last,t.to.words,t.mv,0,i)
 generalize hst1:(runW L ⟨s0,T0.i,[]⟩ words).1=st1 at hI1 himg
 have eE:runE L s0 T0.i words=(scanN L 20000 0 st1,(runW L ⟨s0,T0.i,[]⟩ words).2):=by unfold runE;rw [hst1]
 rw [eE]
 generalize (runW L ⟨s0,T0.i,[]⟩ words).2=out at hlen himg hu
 &Gd.bind (P:=λb=>∃ st T M,b=(st.s.ws,st.s.fs,st.s.sh,L,st.to.seq,st.to.belt,st.to.first,st.to.last,st.to.words,st.mv,(0:Int))/\st=scanN L 20000 0 st1/\J1 s0 C K T0 M.length 0 st T M/\∃ l,st.mv=st1.mv++l) ?_ λb hb=>?_
 ·&Gd.loop (λx=>∃ (k:Nat) (st:EvS) (T:Itm) (M:List (Nat×Nat×Nat)),x=mk2 st (k:Int)/\J1 s0 C K T0 k 0 st T M/\k<=M.length/\scanN L 20000 0 st1=scanN L (20000-k) k st/\∃ l,st.mv=st1.mv++l) _ (λx=>20000-x.2.2.2.2.2.2.2.2.2.2.2.toNat) ⟨0,st1,T1,M1,rfl,hI1,WT _,rfl,[],Os⟩ ?_
  rintro x ⟨k,st,T,M,rfl,hI,hk,hs,l0,hl0⟩
  ð⟨hM,hmv⟩:=ev_len hC.toEvB hI
  have hf:20000-k=(20000-(k+1))+1:=by omega
  &.ite (λhlt=>?_) λhge=>?_
  ·have hlt:k<M.length:=by
    have:(k:Int)<(st.mv.length:Int):=hlt
    omega
   &.pos rfl ?_
   obtain ⟨o,hj⟩:∃ o,(nob T0.i.words.toNat M)[k]?=some o:=⟨_,Wa (by rw [Qeq];~hlt)⟩
   have hom:=Wp hj
   have hmk:st.mv[k]?=some ⟨(o.1:Int),((adr (szS s0) T.fr o.2.1:Nat):Int)⟩:=by
    rw [hI.mv]
    unfold QfZ
    rw [Wh,hj]
    rfl
   ð⟨hkl,hmk2⟩:=Wq.1 hmk
   ð⟨hfl,_⟩:=ev_fields hC.toEvB hI hom
   have hin:=J4 M _ o hom
   have hr15:o.2.2.1<=15:=by
    ð⟨x,hx,q,hq',e⟩:=hI.src _ (QfX M _ o hom)
    ~(Itm.posOk hC.ok (hC.cs x hx) hq').2.1
   have hroom:=QcB hI
   have hz:=hC.toEvB.z0
   have hwl:=Z7 hI.ok
   have hal:=ev_adr hI (q:=o.2.1) Oo
   have hsc:Qcr L st k=((List.range o.2.2.1).map λj=>((adr (szS s0) T.fr (o.2.1+(j+1)):Nat):Int)).foldl (fldSt L) st:=by
    unfold Qcr
    rw [hmk]
    dsimp only
    rw [hfl]
   have es:(⟨s0.sh,st.s.ws,st.s.fs⟩:Sp)=st.s:=by rw [<- hI.sh]
   &Gd.bind (P:=λb=>∃ T' N,b=((Qcr L st k).s.ws,(Qcr L st k).s.fs,(Qcr L st k).s.sh,L,(Qcr L st k).to.seq,(Qcr L st k).to.belt,(Qcr L st k).to.first,(Qcr L st k).to.last,(Qcr L st k).to.words,(Qcr L st k).mv,(0:Int))/\J1 s0 C K T0 k o.2.2.1 (Qcr L st k) T' (M++N)/\∃ l,(Qcr L st k).mv=st.mv++l) ?_ λb hb=>?_
   ·&.at (l:=st.mv) (i:=(k:Int)) Oo (by simpa using hkl) ?_
    have hmk3:st.mv[((k:Int)).toNat]'(by simpa using hkl)=⟨(o.1:Int),((adr (szS s0) T.fr o.2.1:Nat):Int)⟩:=by simpa using hmk2
    rw [hmk3]
    &.call (a:=Qb7 st.s ((adr (szS s0) T.fr o.2.1:Nat):Int)) (by
     show QY ⟨s0.sh,st.s.ws,st.s.fs⟩ _=_
     rw [es]
     ~fields_c hI.ok.shp (Ze hI.ok.fm) hI.w (by unfold I64;dsimp only;omega)) ?_
    rw [hfl,hsc]
    dsimp only
    &Gd.fold ((List.range o.2.2.1).map λj=>((adr (szS s0) T.fr (o.2.1+(j+1)):Nat):Int)) mk2 (fldSt L) st (λj t=>∃ T' N,J1 s0 C K T0 k j t T' (M++N)/\(∃ l,T'.fr=T.fr++l)/\∃ l,t.mv=st.mv++l) rfl (λ_ _=>rfl) (by rw [Wb,WV];omega)
     ⟨T,[],by rw [Vl];~hI,⟨[],Os⟩,⟨[],Os⟩⟩ (λj hjl t ht=>?_) (λht=>?_)
    ·rw [Wb,WV] at hjl
     ð⟨T',N,h1,⟨l,h2⟩,⟨l2,h3⟩⟩:=ht
     have hq:((List.range o.2.2.1).map λj=>((adr (szS s0) T.fr (o.2.1+(j+1)):Nat):Int))[j]'(by rw [Wb,WV];~hjl)=((adr (szS s0) T'.fr (o.2.1+(j+1)):Nat):Int):=by
      rw [Va,UH,h2,Xg Oo Oo]
     ð⟨f1,f2,f3,f4,f5,T'',N',f6,⟨l',f7⟩,⟨l2',f8⟩⟩:=ev_field hC h1 (nob_pre hj) Oo hq
     rw [hL] at f1 f4 f5 f6 f8
     &⟨⟨T'',N++N',by rw [<- WP];~f6,⟨l++l',by rw [f7,h2,WP]⟩,⟨l2++l2',by rw [f8,h3,WP]⟩⟩,?_⟩
     &.atN (by rw [Wb,WV];~hjl) ?_
     generalize ((List.range o.2.2.1).map λj=>((adr (szS s0) T.fr (o.2.1+(j+1)):Nat):Int))[j]'(by rw [Wb,WV];~hjl)=q at f1 f2 f3 f4 f5 f6 f8 ⊢
     &.at f2 f3 ?_
     rw [show (mk2 t (j:Int)).1[q.toNat]'f3=wAt t.s q from (QdL f2 f3).symm]
     &.call (move_c f1) (.pos f4 (.pos f5 (.at f2 (by show q.toNat<(mv1 L t (wAt t.s q)).1.s.ws.length;rw [f4];~f3) (.some rfl))))
    ·rw [Wb,WV] at ht
     ð⟨T',N,h1,_,h3⟩:=ht
     ~⟨T',N,rfl,h1,h3⟩
   ·ð⟨T',N,rfl,h1,⟨l,h2⟩⟩:=hb
    have h3:=ev_next h1 (nob_pre hj) rfl
    &.go ⟨k+1,Qcr L st k,T',M++N,?_,h3,by rw [We];omega,?_,l0++l,by rw [h2,hl0,WP]⟩ ?_
    ·show _=mk2 (Qcr L st k) _
     rw [show w64 ((mk2 st (k:Int)).2.2.2.2.2.2.2.2.2.2.2+1)=((k+1:Nat):Int) from Qd (by show _<=(k:Int)+1/\(k:Int)+1<=_;omega)]
    ·rw [hs,hf]
     show (if k<st.mv.length then scanN L (20000-(k+1)) (k+1) (Qcr L st k) else st)=_
     rw [if_pos hkl]
    ·show 20000-(w64 ((k:Int)+1)).toNat<20000-((k:Int)).toNat
     rw [Qd (n:=(k:Int)+1) Oo]
     omega
  ·have hge:¬ k<st.mv.length:=λc=>hge (by show (k:Int)<(st.mv.length:Int);omega)
   have hkM:k=M.length:=by omega
   &.out ⟨st,T,M,rfl,?_,by rw [<- hkM];~hI,l0,hl0⟩
   rw [hs,hf]
   show st=if k<st.mv.length then _ else st
   rw [if_neg hge]
 ·ð⟨st,T,M,rfl,hst,hI,l,hl⟩:=hb
  &.some ⟨by rw [<- hst],T,M,by rw [<- hst];~hI,hlen,λj w v h1 h2=>?_,hu⟩
  rw [<- hst]
  ~(himg j w v h1 h2).mono λm hm=>by rw [hl];~Wf _ hm
end
theorem wu_u(x:Int):0<=wu x/\wu x<=18446744073709551615:=by
 unfold wu
 rw [IntKind.wrap_u64]
 omega
def Qd2(x:Nat):Prop:=x=0\/(QeY .gtr x 0=true/\QeY .leq x 4607182418800017408=true)
theorem valid06_c{x:Nat}(h:Qd2 x):X2 x=some true:=by
 &Gd.eq ?_
 unfold X2
 rcases h with h | ⟨h1,h2⟩
 ·~.pos Oo (.some rfl)
 ·~.ite (λ_=>.some rfl) λ_=>.pos h1 (.some h2)
structure Qeg(c:Cfg):Prop where
 name:Zz c.name=some true
 len:1<=c.rules.length/\c.rules.length<=4
 rule:∀ b (h:b<c.rules.length),Qd2 c.rules[b].share/\(0<=c.rules[b].limit/\c.rules[b].limit<=64)/\(0<=c.rules[b].batch/\c.rules[b].batch<=64)/\(b+1=c.rules.length->c.rules[b].limit=0/\c.rules[b].target=b)/\(b+1<c.rules.length->b<c.rules[b].target/\c.rules[b].target<c.rules.length)
 aim:∀ b,0<b->b<c.rules.length->∃ b',∃ h:b' < c.rules.length,b'+1<c.rules.length/\c.rules[b'].target=b
 full:∀ h:c.rules.length-1<c.rules.length,if QeY .eql c.rules[c.rules.length-1].share 0=true then 1<=c.full/\c.full<=64 else c.full=0
theorem check_c{c:Cfg}(h:Qeg c):ZA c=some 0:=by
 ð⟨hn,⟨l1,l4⟩,hr,ha,hf⟩:=h
 have hl:c.rules.length-1<c.rules.length:=by omega
 have e1:w64 ((c.rules.length:Int)-1)=((c.rules.length-1:Nat):Int):=by rw [Qd Oo];omega
 &Gd.eq ?_
 unfold ZA
 &.call hn (.pos rfl (.neg Oo (.neg Oo ?_)))
 &Gd.bndR (P:=λz=>∃ l:List Bool,z = .inl l/\l.length=4/\∀ b,b<c.rules.length->l[b]?=some true) ?_ (λl hP=>?_) (λr hP=>by ð⟨l,h,_⟩:=hP;cases h)
 ·&Gd.for c.rules.length (λ(t:List Bool) i=>(t,i)) (λi t=>t.length=4/\t[0]?=some true/\∀ b',(h:b' < c.rules.length)->b' < i->b'+1<c.rules.length->t[c.rules[b'].target.toNat]?=some true) [true,false,false,false] rfl (λ_ _=>rfl) Oo ⟨rfl,rfl,λb' _ h=>absurd h (WZ _)⟩ (λi hi t ht=>?_) (λt ht=>?_)
  ·ð⟨t1,t2,t3⟩:=ht
   ð⟨r1,r2,r3,r4,r5⟩:=hr i hi
   &.atN hi (.call (valid06_c r1) (.pos rfl (.neg Oo (.neg Oo (.neg Oo (.neg Oo ?_))))))
   rw [e1]
   &.ite (λhc=>?_) λhc=>?_
   ·have hc:i+1=c.rules.length:=by dsimp only at hc;omega
    ð⟨q1,q2⟩:=r4 hc
    ~.pos q1 (.pos q2 (.some (.inl ⟨t,rfl,t1,t2,λb' hb h2 h3=>t3 b' hb Oo h3⟩)))
   ·have hc:i+1<c.rules.length:=by dsimp only at hc;omega
    ð⟨q1,q2⟩:=r5 hc
    have hb:c.rules[i].target.toNat<t.length:=by omega
    &.neg (by dsimp only;omega) (.neg Oo (.pos Oo (.at (l:=t) Oo hb (.some (.inl ⟨t.set c.rules[i].target.toNat true,rfl,by rw [Wv];~t1,?_,λb' hb' h2 h3=>?_⟩)))))
    ·rw [WC Oo];~t2
    ·by_cases e:c.rules[i].target.toNat=c.rules[b'].target.toNat
     ·rw [<- e,WD hb]
     ·rw [WC e]
      &t3 b' hb' ?_ h3
      rcases Ws b' i with q | q
      ·~q
      ·~absurd (by congr;omega) e
  ·ð⟨t1,t2,t3⟩:=ht
   &⟨t,rfl,t1,λb hb=>?_⟩
   rcases Ud b with rfl | h0
   ·~t2
   ·ð⟨b',hb',h1,h2⟩:=ha b h0 hb
    have:=t3 b' hb' hb' h1
    rwa [h2] at this
 ·ð⟨l',h,h4,hall⟩:=hP
  injection h with h
  subst h
  &Gd.bndR (P:=λz=>z = .inl ()) ?_ (λ_ _=>?_) (λr hP=>by cases hP)
  ·&Gd.for c.rules.length (λ(_:Unit) i=>i) (λ_ _=>True) () rfl (λ_ _=>rfl) Oo trivial (λi hi t ht=>?_) (λt ht=>rfl)
   have:=hall i hi
   ð⟨h1,h2⟩:=Wq.1 this
   ~.pos Oo (.atN h1 (.pos h2 (.some (.inl ⟨(),rfl,trivial⟩))))
  ·rw [e1]
   &.atN hl ?_
   have hf:=hf hl
   &.ite (λh=>?_) λh=>?_
   ·rw [if_pos h] at hf
    ~.neg Oo (.neg Oo (.some rfl))
   ·rw [if_neg h] at hf
    ~.pos hf (.some rfl)
def CplP(c:Cfg):Prop:=∃ h:c.rules.length-1<c.rules.length,QeY .eql c.rules[c.rules.length-1].share 0=true
theorem Qc2{c:Cfg}(h:Qeg c):QR c=some (bP (CplP c)):=by
 have hl:=h.len
 have e1:w64 ((c.rules.length:Int)-1)=((c.rules.length-1:Nat):Int):=by rw [Qd Oo];omega
 &Gd.eq ?_
 unfold QR
 &.call (check_c h) (.pos rfl ?_)
 rw [e1]
 &.atN Oo ?_
 &Gd.b (p:=CplP c) ⟨λk=>⟨Oo,k⟩,λ⟨_,k⟩=>k⟩
theorem frames06_c{x:Nat}(h:Qd2 x){n:Int}(hn:1<=n/\n<=64):∃ v,Xo x n=some (v,0):=by
 suffices h:Gd (λr:Int×Int=>r.2=0) (Xo x n) by
  ð⟨r,h1,h2⟩:=h
  ~⟨r.1,by rw [h1,<- h2]⟩
 have hwu:∀ y,0<=wu y:=λy=>(wu_u y).1
 unfold Xo
 &.call (valid06_c h) (.pos rfl (.neg Oo (.neg Oo ?_)))
 &.ite (λ_=>.some rfl) λ_=>?_
 &.ite (λ_=>?_) λ_=>?_
 ·&.ite (λ_=>.pos (hwu _) (.some rfl)) λ_=>.some rfl
 ·~.ite (λ_=>.pos (hwu _) (.some rfl)) λ_=>.some rfl
noncomputable def capV(c:Cfg)(b n:Int):Int:=((XK c b n).getD (0,0)).1
theorem cap_c{c:Cfg}(h:Qeg c){b n:Int}(hb:0<=b/\b<c.rules.length)(hn:1<=n/\n<=64):XK c b n=some (capV c b n,0):=by
 have hbl:b.toNat<c.rules.length:=by omega
 ð⟨v,hv⟩:=frames06_c (h.rule b.toNat hbl).1 hn
 have:XK c b n=some (v,0):=by
  &Gd.eq ?_
  unfold XK
  &.call (check_c h) (.pos rfl (.neg Oo (.neg Oo (.neg Oo (.neg Oo (.at hb.1 hbl (.call hv (.some rfl))))))))
 unfold capV
 rw [this]
 rfl
def QaB(z:Nat)(L:List Itm)(q:Nat):Prop:=∃ x∈L,∃ p r d,(p,r,d)∈obs 0 x.os/\∃ k,1<=k/\k<=r/\q=adr z x.fr (p+k)
def RefW(z:Nat)(L:List Itm)(w:Int):Prop:=w=0\/(1<=w/\∃ r d,ObjZ z L (w-1).toNat r d)
structure QG(h:Hp)(BL:List (List Itm)):Prop where
 cfg:Qeg h.config
 bl:h.belts=BL.map λq=>q.map Itm.i
 bn:BL.length=h.config.rules.length
 sp:Qck h.space BL.flatten
 pos:∀ x∈BL.flatten,1<=x.i.words
 blt:∀ b (hb:b<BL.length),∀ x∈BL[b],x.i.belt=(b:Int)
 asc:∀ q∈BL,q.Pairwise λx y=>x.i.seq<y.i.seq
 sq:∀ x∈BL.flatten,x.i.seq<h.seq
 sq0:0<=h.seq
 rts:Qb6 h.roots
 roots:∀ i∈Zv h.roots,1<=QD h.roots i/\∃ r d,ObjZ (szS h.space) BL.flatten (QD h.roots i-1).toNat r d
 refs:∀ q,QaB (szS h.space) BL.flatten q->RefW (szS h.space) BL.flatten (wAt h.space (q:Int))
 sok:Qo h.sets
 sin:XB h.sets
 snd:∀ f t q,InS h.sets f t q->QaB (szS h.space) BL.flatten q.toNat/\f=(X7 h.space q:Int)/\∃ (h2:t.toNat<h.space.fs.length),0<=t/\¬ h.space.fs[t.toNat].ow = -1
 cmp:∀ q,QaB (szS h.space) BL.flatten q->QaL h.space (q:Int) (wAt h.space (q:Int))->InS h.sets (X7 h.space (q:Int):Int) (X7 h.space (wAt h.space (q:Int)-1):Int) (q:Int)
 resv:CplP h.config->2*(h.space.fs.length-(Qk h.space.fs).length)<=h.space.fs.length
section
variable{h:Hp}{BL:List (List Itm)}
theorem QG.flat(H:QG h BL):h.belts.flatten=BL.flatten.map Itm.i:=by
 rw [H.bl,Yo]
theorem QG.dist(H:QG h BL):h.belts.flatten.Pairwise λx y=>x.seq≠y.seq:=by
 rw [H.flat,Vc]
 ~H.sp.seqs
theorem QG.count(H:QG h BL):BL.flatten.length<=64:=by
 have key:∀ (L:List Itm),(∀ x∈L,QaC h.space x)->L.Pairwise (λx y=>x.i.seq≠y.i.seq)->(∀ x∈L,1<=x.i.words)->(L.map λx=>(x.fr.head?).getD 0).Nodup/\∀ x∈L,(x.fr.head?).getD 0<h.space.fs.length:=by
  intro L
  have hne:∀ x,QaC h.space x->1<=x.i.words->∃ f l,x.fr=f :: l:=λx hx hp=>by
   cases e:x.fr with
   | cons f l=>~⟨f,l,rfl⟩
   | nil =>
    have:=hx.inc.room H.sp.ok
    rw [e] at this
    simp at this
    omega
  induction L with
  | nil=>intro _ _ _;~⟨Os,λx hx=>absurd hx (Vx)⟩
  | cons x L ih =>
   intro h1 h2 h3
   have h4:=Vs.1 h2
   ð⟨i1,i2⟩:=ih (λy hy=>h1 y (Wm _ hy)) h4.2 λy hy=>h3 y (Wm _ hy)
   ð⟨f,l,e⟩:=hne x (h1 x (WA ..)) (h3 x (WA ..))
   have hx:=(h1 x (WA ..)).inc.toIncC
   &⟨?_,λy hy=>?_⟩
   ·rw [Vg,Uu]
    &⟨λhm=>?_,i1⟩
    ð⟨y,hy,ey⟩:=Wk.1 hm
    ð⟨g,m,e2⟩:=hne y (h1 y (Wm _ hy)) (h3 y (Wm _ hy))
    have hy1:=(h1 y (Wm _ hy)).inc.toIncC
    rw [e,e2] at ey
    simp at ey
    &hx.disj hy1 (h4.1 y hy) f (by rw [e];simp) ?_
    rw [e2,<- ey];simp
   ·rcases Wt.1 hy with rfl | hy
    ·rw [e]
     ~hx.ch.lt f (by rw [e];simp)
    ·~i2 y hy
 ð⟨k1,k2⟩:=key BL.flatten H.sp.each H.sp.seqs H.pos
 have:=QdS k1 (n:=h.space.fs.length) λf hf=>by
  ð⟨x,hx,rfl⟩:=Wk.1 hf
  ~k2 x hx
 rw [Wb] at this
 have:=H.sp.ok.shp.hi
 omega
theorem Qcu{α:Type}{q:List α}:∀ {L:List (List α)},q∈L->q.length<=L.flatten.length
 | a :: L,h=>by
  rw [Vi,We]
  rcases Wt.1 h with rfl | h
  ·omega
  ·have:=Qcu h;omega
theorem QG.bsz(H:QG h BL):BSz h.belts:=by
 have h1:=H.cfg.len
 have h2:=H.count
 rw [H.bl]
 &⟨by rw [Wb,H.bn];omega,λq hq=>?_⟩
 ð⟨p,hp,rfl⟩:=Wk.1 hq
 have:=Qcu hp
 rw [Wb]
 omega
theorem QG.wd(H:QG h BL):WdIn h.belts:=by
 rw [H.bl]
 intro q hq x hx
 ð⟨p,hp,rfl⟩:=Wk.1 hq
 ð⟨y,hy,rfl⟩:=Wk.1 hx
 have h1:=(H.sp.each y (Vb.2 ⟨p,hp,hy⟩)).inc.wd
 have:=Z7 H.sp.ok
 omega
theorem QG.bl_at(H:QG h BL){b:Nat}(hb:b<BL.length):h.belts[b]?=some (BL[b].map Itm.i):=by
 rw [H.bl,Wh,Wa hb];rfl
end
def PrefP(all:List Inc)(q:List Int):Prop:=q.length<=all.length/\q.Nodup/\(∀ s∈q,∃ x∈all.take q.length,x.seq=s)/\∀ x∈all.take q.length,x.seq∈q
theorem any_loop{α:Type}{l:List α}{p:α->Bool}(hl:l.length<=9223372036854775806){K:Bool->α->Bool}(hK:∀ b x,K b x=(b || p x)) :
  Gd (λb=>b=l.any p) (Qh (λ(s:Bool×Int)=>if s.2<(l.length:Int) then ((at_ l s.2).bind λv=>if s.1=true then (some (LS.go ((true,w64 (s.2+1))))) else some (LS.go ((p v,w64 (s.2+1))))) else some (LS.out (s.1))) (false,0)):=by
 &Gd.for l.length (λ(t:Bool) i=>(t,i)) (λi t=>t=(l.take i).any p) false rfl (λ_ _=>rfl) hl Os (λi hi t ht=>?_) (λt ht=>by rw [WR] at ht;~ht)
 &.atN hi ?_
 have e:(l.take (i+1)).any p=((l.take i).any p || p l[i]):=by rw [QI hi,List.any_append];simp
 &.ite (λh=>.some (.inl ⟨true,rfl,?_⟩)) λh=>.some (.inl ⟨_,rfl,?_⟩)
 ·have h:t=true:=h
  rw [e,<- ht,h];rfl
 ·have h:t=false:=by simpa using h
  rw [e,<- ht,h];rfl
theorem prefix_c{B:List (List Inc)}(hB:BSz B)(q:List Int)(hq:q.length<=1000000):Jd B q=some (bP (PrefP B.flatten q)):=by
 have hfl:=hB.flat
 &Gd.eq ?_
 unfold Jd
 &.call (all15_c hB) ?_
 &.ite (λh=>.f λk=>by have:=k.1;omega) λhlen=>?_
 have hlen:q.length<=B.flatten.length:=by omega
 have etk:(B.flatten.take (Int.toNat (q.length:Int))).drop (Int.toNat 0)=B.flatten.take q.length:=by rw [Wd];rfl
 have hcond:(0:Int)<=0/\0<=(q.length:Int)/\(q.length:Int)<=(B.flatten.length:Int):=⟨Oo,Oo,Oo⟩
 have htl:(B.flatten.take q.length).length=q.length:=by rw [Wi];omega
 &Gd.bndR (P:=λz=>(z = .inl ()/\q.Nodup/\∀ s∈q,∃ x∈B.flatten.take q.length,x.seq=s)\/(z = .inr false/\¬ PrefP B.flatten q)) ?_ (λ_ hP=>?_) (λr hP=>?_)
 ·&Gd.for q.length (λ(_:Unit) i=>i) (λi _=>(q.take i).Nodup/\∀ s∈q.take i,∃ x∈B.flatten.take q.length,x.seq=s) () rfl (λ_ _=>rfl) Oo ⟨Os,Os⟩ (λi hi t ht=>?_) (λt ht=>?_)
  ·&Gd.bndR (P:=λz=>(z = .inl ()/\q[i]∉q.take i/\∃ x∈B.flatten.take q.length,x.seq=q[i])\/(z = .inr (.out (.inr false))/\¬ PrefP B.flatten q)) ?_ (λ_ hP=>?_) (λr hP=>?_)
   ·&.atN hi ?_
    &Gd.bndR (P:=λz=>(z = .inl ()/\q[i]∉q.take i)\/(z = .inr (.inr (.out (.inr false)))/\¬ PrefP B.flatten q)) ?_ (λ_ hP=>?_) (λr hP=>?_)
    ·&Gd.for i (λ(_:Unit) i=>i) (λj _=>∀ k (hk:k<q.length),k<j->q[k]≠q[i]) () rfl (λ_ _=>rfl) Oo (λk _ h=>absurd h (WZ _)) (λj hj t ht'=>?_) (λt ht'=>.inl ⟨rfl,λhm=>?_⟩)
     ·&.atN (show j<q.length by omega) (.ite (λh=>.some (.inr ⟨_,rfl,.inr ⟨rfl,λk=>?_⟩⟩)) λh=>.some (.inl ⟨(),rfl,λk hk h2=>?_⟩))
      ·have:=Wy.1 (Vh.1 k.2.1) j i Oo hi hj
       ~this h
      ·by_cases e:k=j
       ·subst e;~h
       ·~ht' k hk Oo
     ·ð⟨k,hk,e⟩:=WN.1 hm
      rw [Wi] at hk
      rw [UP] at e
      ~ht' k Oo Oo e
    ·rcases hP with ⟨_,hn⟩ | ⟨h,_⟩
     ·rw [if_pos hcond,etk]
      &Gd.bind (P:=λb=>b=(B.flatten.take q.length).any λx=>decide (x.seq=q[i])) (any_loop Oo (K:=λb x=>b || decide (x.seq=q[i])) λ_ _=>rfl) λb hb=>?_
      &.ite (λh=>.some (.inl ⟨rfl,hn,?_⟩)) λh=>.some (.inr ⟨rfl,λk=>?_⟩)
      ·rw [hb,UD] at h
       ð⟨x,hx,e⟩:=h
       ~⟨x,hx,by simpa using e⟩
      ·apply h
       rw [hb,UD]
       ð⟨x,hx,e⟩:=k.2.2.1 _ (Wc hi)
       ~⟨x,hx,by simpa using e⟩
     ·cases h
    ·rcases hP with ⟨h,_⟩ | ⟨h,hP⟩
     ·cases h
     ·injection h with h;~.inr ⟨h,hP⟩
   ·rcases hP with ⟨_,h1,h2⟩ | ⟨h,_⟩
    ·&.some (.inl ⟨(),rfl,?_,λs hs=>?_⟩)
     ·rw [QI hi,Um]
      &⟨ht.1,Os,λa ha b hb=>?_⟩
      rw [Wo.1 hb]
      rintro rfl
      ~h1 ha
     ·rw [QI hi] at hs
      rcases Wn.1 hs with hs | hs
      ·~ht.2 s hs
      ·rw [Wo.1 hs];~h2
    ·cases h
   ·rcases hP with ⟨h,_⟩ | ⟨h,hP⟩
    ·cases h
    ·injection h with h;~.inr ⟨_,h,.inr ⟨rfl,hP⟩⟩
  ·rw [WR] at ht
   ~.inl ⟨rfl,ht⟩
 ·rcases hP with ⟨_,hn,hs⟩ | ⟨h,_⟩
  ·rw [if_pos hcond,etk]
   &Gd.bndR (P:=λz=>(z = .inl ()/\∀ x∈B.flatten.take q.length,x.seq∈q)\/(z = .inr false/\¬ PrefP B.flatten q)) ?_ (λ_ hP=>?_) (λr hP=>?_)
   ·&Gd.for (B.flatten.take q.length).length (λ(_:Unit) i=>i) (λi _=>∀ k (hk:k<(B.flatten.take q.length).length),k<i->(B.flatten.take q.length)[k].seq∈q) () rfl (λ_ _=>rfl) Oo (λk _ h=>absurd h (WZ _)) (λi hi t ht=>?_) (λt ht=>.inl ⟨rfl,λx hx=>?_⟩)
    ·&Gd.bndR (P:=λz=>(z = .inl ()/\(B.flatten.take q.length)[i].seq∈q)\/(z = .inr (.out (.inr false))/\¬ PrefP B.flatten q)) ?_ (λ_ hP=>?_) (λr hP=>?_)
     ·&.atN hi ?_
      &Gd.bind (P:=λb=>b=q.any λs=>decide ((B.flatten.take q.length)[i].seq=s)) (any_loop Oo (K:=λb x=>b || decide ((B.flatten.take q.length)[i].seq=x)) λ_ _=>rfl) λb hb=>?_
      &.ite (λh=>.some (.inl ⟨rfl,?_⟩)) λh=>.some (.inr ⟨rfl,λk=>?_⟩)
      ·rw [hb,UD] at h
       ð⟨x,hx,e⟩:=h
       have e:(B.flatten.take q.length)[i].seq=x:=by simpa using e
       rw [e];~hx
      ·apply h
       rw [hb,UD]
       ~⟨_,k.2.2.2 _ (Wc hi),Os⟩
     ·rcases hP with ⟨_,h1⟩ | ⟨h,_⟩
      ·&.some (.inl ⟨(),rfl,λk hk h2=>?_⟩)
       by_cases e:k=i
       ·subst e;~h1
       ·~ht k hk Oo
      ·cases h
     ·rcases hP with ⟨h,_⟩ | ⟨h,hP⟩
      ·cases h
      ·injection h with h;~.inr ⟨_,h,.inr ⟨rfl,hP⟩⟩
    ·ð⟨k,hk,rfl⟩:=WN.1 hx
     ~ht k hk hk
   ·rcases hP with ⟨_,h1⟩ | ⟨h,_⟩
    ·~.t ⟨hlen,hn,hs,h1⟩
    ·cases h
   ·rcases hP with ⟨h,_⟩ | ⟨h,hP⟩
    ·cases h
    ·injection h with h;rw [h,Qdd hP]
  ·cases h
 ·rcases hP with ⟨h,_⟩ | ⟨h,hP⟩
  ·cases h
  ·injection h with h;rw [h,Qdd hP]
theorem inc_eq{x y:Inc}:([x.seq,x.belt,x.first,x.last,x.words]:List Int)=[y.seq,y.belt,y.first,y.last,y.words]<->x=y:=by
 constructor
 ·intro h
  cases x;cases y
  simp only [YT,and_true] at h
  ð⟨h1,h2,h3,h4,h5⟩:=h
  subst h1;subst h2;subst h3;subst h4;subst h5
  rfl
 ·rintro rfl;rfl
def TgtP(B:List (List Inc))(l:List Inc):Prop:=∃ h:0<l.length,(∀ x∈l,B.flatten.find? (λy=>decide (y.seq=x.seq))=some x/\x.belt=l[0].belt)/\PrefP B.flatten (l.map Inc.seq)
noncomputable def tgtI(h:Hp)(l:List Inc):Inc :=
 let t:=((h.config.rules[((l.head?).getD inc0).belt.toNat]?).map Rul.target).getD 0
 match yngR h.belts t with
 | none=>⟨h.seq,t,-1,-1,0⟩
 | some y=>if (l.any λx=>decide (x.seq=y.seq))=false/\(capV h.config t h.space.fs.length=0\/y.words<w64 (capV h.config t h.space.fs.length*(szS h.space:Int))) then y else ⟨h.seq,t,-1,-1,0⟩
theorem target_c{h:Hp}{BL:List (List Itm)}(H:QG h BL)(l:List Inc)(hl:l.length<=1000000):Xj h l=some (open Classical in if TgtP h.belts l then (tgtI h l,0) else (inc0,1)):=by
 have hB:=H.bsz
 have hcl:=H.cfg.len
 have h64:=H.sp.ok.shp.hi
 have h2:=H.sp.ok.shp.lo
 &Gd.eq ?_
 unfold Xj
 &Gd.bndR (P:=λz=>(z = .inl (l.map Inc.seq)/\∀ x∈l,h.belts.flatten.find? (λy=>decide (y.seq=x.seq))=some x/\∀ h0:0<l.length,x.belt=l[0].belt)\/(z = .inr (inc0,1)/\¬ TgtP h.belts l)) ?_ (λb hP=>?_) (λr hP=>?_)
 ·&Gd.for l.length (λ(t:List Int) i=>(t,i)) (λi t=>t=(l.take i).map Inc.seq/\∀ x∈l.take i,h.belts.flatten.find? (λy=>decide (y.seq=x.seq))=some x/\∀ h0:0<l.length,x.belt=l[0].belt) [] rfl (λ_ _=>rfl) Oo ⟨Os,Os⟩ (λi hi t ht=>?_) (λt ht=>?_)
  ·ð⟨t1,t2⟩:=ht
   have tl:t.length<=1000000:=by rw [t1,Wb,Wi];omega
   have hin:l[i]∈l:=Wc hi
   &.atN hi (.call (find11_c hB _) ?_)
   cases hf:h.belts.flatten.find? (λy=>decide (y.seq=l[i].seq)) with
   | none=>~.neg (by simp [optI]) (.some (.inr ⟨_,rfl,.inr ⟨rfl,λ⟨_,k,_⟩=>by have:=(k _ hin).1;rw [hf] at this;cases this⟩⟩))
   | some y =>
    &.pos rfl ?_
    &.ite (λhe=>?_) λhe=>.some (.inr ⟨_,rfl,.inr ⟨rfl,λ⟨_,k,_⟩=>?_⟩⟩)
    ·have he:y=l[i]:=inc_eq.1 he
     subst he
     &.at0 Oo (.ite (λhb=>.pos (X9 (l:=t) tl Oo) (.some (.inl ⟨_,rfl,?_,λx hx=>?_⟩))) λhb=>.some (.inr ⟨_,rfl,.inr ⟨rfl,λ⟨_,k,_⟩=>hb (k _ hin).2⟩⟩))
     ·rw [QI hi,WH,t1];rfl
     ·rw [QI hi] at hx
      rcases Wn.1 hx with hx | hx
      ·~t2 x hx
      ·rw [Wo.1 hx];~⟨hf,λ_=>hb⟩
    ·apply he
     have:=(k _ hin).1
     rw [hf] at this
     injection this with this
     ~inc_eq.2 this
  ·ð⟨t1,t2⟩:=ht
   rw [WR] at t1 t2
   ~.inl ⟨by rw [t1],t2⟩
 ·rcases hP with ⟨hb,hP⟩ | ⟨hb,_⟩
  ·injection hb with hb
   subst hb
   &.ite (λh0=>.some (by rw [if_neg λ⟨k,_⟩=>by omega])) λh0=>?_
   have hl0:0<l.length:=by omega
   &.call (prefix_c hB (l.map Inc.seq) (by rw [Wb];omega)) ?_
   &.ite (λhp=>?_) λhp=>.some (by rw [if_neg λ⟨_,_,k⟩=>hp (J5 k)])
   have hT:TgtP h.belts l:=⟨hl0,λx hx=>⟨(hP x hx).1,(hP x hx).2 hl0⟩,QE.1 hp⟩
   rw [if_pos hT]
   have hm0:l[0]∈h.belts.flatten:=Ub (hP _ (Wc hl0)).1
   obtain ⟨b,hbl,hbelt⟩:∃ b:Nat,b<h.config.rules.length/\l[0].belt=(b:Int):=by
    rw [H.flat] at hm0
    ð⟨x,hx,ex⟩:=Wk.1 hm0
    ð⟨q,hq,hxq⟩:=Vb.1 hx
    ð⟨b,hb,rfl⟩:=WN.1 hq
    ~⟨b,by rw [<- H.bn];~hb,by rw [<- ex];~H.blt b hb x hxq⟩
   ð⟨_,_,_,q4,q5⟩:=H.cfg.rule b hbl
   have ht:0<=h.config.rules[b].target/\h.config.rules[b].target<h.config.rules.length:=by
    rcases Ws (b+1) h.config.rules.length with c | c
    ·have:=q5 c;omega
    ·have:=(q4 Oo).2;omega
   have et:((h.config.rules[((l.head?).getD inc0).belt.toNat]?).map Rul.target).getD 0=h.config.rules[b].target:=by
    rw [Yi,Wa hl0,WE,hbelt,Wd,Wa hbl]
    rfl
   unfold tgtI
   rw [et]
   &.at0 hl0 ?_
   rw [hbelt]
   &.atN hbl ?_
   &.call (cap_c H.cfg ht (n:=(h.space.fs.length:Int)) ⟨Oo,Oo⟩) ?_
   &.call (QcU hB _) ?_
   dsimp only
   generalize h.config.rules[b].target=t at ht ⊢
   generalize capV h.config t h.space.fs.length=cp
   cases hy:yngR h.belts t with
   | none =>
    &Gd.bind (P:=λb=>b=false) ?_ λb hb=>?_
    ·&Gd.for l.length (λ(t:Bool) i=>(t,i)) (λi t=>t=false) false rfl (λ_ _=>rfl) Oo rfl (λi hi t ht=>?_) (λt ht=>by rw [ht])
     subst ht
     ~.atN hi (.neg Os (.some (.inl ⟨_,rfl,rfl⟩)))
    ·subst hb
     ~.neg Os (.some rfl)
   | some y =>
    rw [show optI (some y)=(y,true) from rfl]
    dsimp only
    &Gd.bind (P:=λb=>b=!(l.any λx=>decide (x.seq=y.seq))) ?_ λb hb=>?_
    ·&Gd.for l.length (λ(t:Bool) i=>(t,i)) (λi t=>t=!((l.take i).any λx=>decide (x.seq=y.seq))) true rfl (λ_ _=>rfl) Oo Os (λi hi t ht=>?_) (λt ht=>by rw [WR] at ht;rw [ht])
     have e:((l.take (i+1)).any λx=>decide (x.seq=y.seq))=(((l.take i).any λx=>decide (x.seq=y.seq)) || decide (l[i].seq=y.seq)):=by rw [QI hi,List.any_append];simp
     &.atN hi (.ite (λhc=>.some (.inl ⟨_,rfl,?_⟩)) λhc=>.some (.inl ⟨_,rfl,?_⟩))
     ·have hc:t=true:=hc
      rw [ht] at hc
      have:((l.take i).any λx=>decide (x.seq=y.seq))=false:=by simpa using hc
      rw [e,this];rfl
     ·have hc:t=false:=by simpa using hc
      rw [ht] at hc
      have:((l.take i).any λx=>decide (x.seq=y.seq))=true:=by simpa using hc
      rw [e,this];rfl
    ·subst hb
     &.ite (λha=>?_) λha=>?_
     ·have ha:(l.any λx=>decide (x.seq=y.seq))=false:=by simpa using ha
      &.call (open_c H.sp.ok.shp.sh _ _) ?_
      &.ite (λho=>.some ?_) λho=>.some ?_
      ·rw [if_pos ⟨ha,by simpa using ho⟩]
      ·rw [if_neg]
       rintro ⟨_,k⟩
       apply ho
       simpa using k
     ·&.some ?_
      rw [if_neg]
      rintro ⟨k,_⟩
      apply ha
      rw [k];rfl
  ·cases hb
 ·rcases hP with ⟨h,_⟩ | ⟨h,hP⟩
  ·cases h
  ·injection h with h
   rw [if_neg hP]
   ~h
def Jg(d:Qc):Prop:=(∀ x∈d.l,I64 x)/\0<=d.pos/\d.l.length<=9223372036854775807
theorem next_spec{d:Qc}(h:Jg d){n:Int}(hn:1<=n/\n<=9223372036854775807):∃ v d',Qb d n=some (v,d')/\0<=v/\v<n/\Jg d':=by
 ð⟨h1,h2,h3⟩:=h
 unfold Qb
 by_cases hp:(d.l.length:Int)<=d.pos
 ·rw [if_pos hp]
  ~⟨0,d,rfl,Oo,Oo,h1,h2,h3⟩
 ·rw [if_neg hp]
  have e1:w64 (d.pos+1)=d.pos+1:=Qd Oo
  have e2:w64 (d.pos+1-1)=d.pos:=by rw [Qd Oo];omega
  ð⟨v,hv,hm⟩:=at_ex (l:=d.l) h2 Oo
  rw [e1,e2,hv]
  simp only [WQ]
  rw [mod_c (h1 v hm) hn]
  &⟨v%n,_,rfl,V3 _ Oo,V4 _ Oo,h1,?_,h3⟩
  show 0<=d.pos+1
  omega
theorem new_spec{k n:Int}(hk:Qco k)(hn:2<=n/\n<=64):Qag k n=some (newS k n.toNat,0):=by
 have hk0:=hk
 unfold Qco at hk
 have hs:ZC k=some true:=by
  unfold ZC
  simp [hk.1,hk.2]
 unfold Qag
 &Qdv hs ?_
 obtain ⟨e,he⟩:∃ e:Nat,k=e:=⟨k.toNat,Oo⟩
 obtain ⟨m,hm⟩:∃ m:Nat,n=m:=⟨n.toNat,Oo⟩
 subst he
 subst hm
 have hp:(2:Nat)^e<=2^8:=Ux Od Oo
 have hp0:0<(2:Nat)^e:=Nat.pow_pos Od
 have hmul:m*2^e<=64*256:=V1 Oo hp
 have hi:(m:Int)*2^e=((m*2^e:Nat):Int):=by push_cast;rfl
 have hsh:Qa9 .i64 (m:Int) (e:Int)=((m*2^e:Nat):Int):=by rw [shl_pow Oo (by rw [hi];omega),hi]
 have hw:wu (e:Int)=(e:Int):=Xv Oo
 rw [if_pos rfl,if_neg Oo,if_neg Oo,hw,if_pos Oo,hsh,if_pos Oo,if_pos Oo]
 have lp:Qh (λ(s12:List Fe×Int) =>
   if s12.2<((List.replicate (Int.toNat (m:Int)) (Fe.mk 0 0 0)).length:Int) then
    ((at_ s12.1 s12.2).bind λv17=>some (.go ((s12.1.set (Int.toNat s12.2) (Fe.mk (-1) (-1) (-1)),w64 (s12.2+1)))))
   else some (.out s12.1)) (List.replicate (Int.toNat (m:Int)) (Fe.mk 0 0 0),0)=some (List.replicate m feF):=by
  have h0:List.replicate (Int.toNat (m:Int)) (Fe.mk 0 0 0)=List.replicate 0 feF++List.replicate (m-0) (Fe.mk 0 0 0):=by simp
  rw [h0]
  &Qfq (σ:=List Fe×Int) (λj=>(List.replicate j feF++List.replicate (m-j) (Fe.mk 0 0 0),(j:Int))) m (λj hj=>?_) ?_
  ·dsimp only
   have hl:(List.replicate j feF++List.replicate (m-j) (Fe.mk 0 0 0)).length=m:=by simp;omega
   rw [if_pos (by simp;omega),Qgp (by rw [hl];~hj)]
   simp only [WQ]
   rw [Qd Oo,Wd]
   have hx:(List.replicate j feF++List.replicate (m-j) (Fe.mk 0 0 0)).set j (Fe.mk (-1) (-1) (-1))=List.replicate (j+1) feF++List.replicate (m-(j+1)) (Fe.mk 0 0 0):=by
    rw [Yk _ _ Os,Ve,Ui]
    obtain ⟨q,hq⟩:∃ q,m-j=q+1:=⟨m-j-1,Oo⟩
    rw [hq,U2,List.set_cons_zero,show m-(j+1)=q by omega,Ys]
    simp
   rw [hx]
   rfl
  ·dsimp only
   rw [if_neg Os,Ui]
   simp
 &Qdv lp ?_
 unfold newS
 rw [Wd]
 simp
theorem new_inv{k:Int}{n:Nat}(hk:Qco k)(hn:2<=n/\n<=64):Qck (newS k n) []:=by
 have hg:∀ i (h:i<(newS k n).fs.length),(newS k n).fs[i]=feF:=λi h=>by simp [newS]
 &⟨⟨⟨hk,by simp [newS];~hn.1,by simp [newS];~hn.2,by simp [newS,szS]⟩,λi hi=>.inl ?_,λi j hi hj hij _ e=>by rw [hg],λi hi=>?_⟩,⟨λx hx=>?_,λf hf=>?_⟩,λx hx=>(by cases hx),Yj,λi hi ho=>absurd (by rw [hg]) ho⟩
 ·rw [hg]
  ~⟨rfl,rfl,rfl,λa ha _ _=>by simp [newS]⟩
 ·rw [QbV hi,hg]
  ~Xz _ rfl
 ·have:=Uz (show x∈List.replicate _ (0:Int) from hx)
  subst this
  unfold U64
  omega
 ·have:=Uz (show f∈List.replicate _ feF from hf)
  subst this
  unfold I64
  ~⟨by show _<=(-1:Int)/\(-1:Int)<=_;omega,by show _<=(-1:Int)/\(-1:Int)<=_;omega,by show _<=(-1:Int)/\(-1:Int)<=_;omega⟩
theorem Qck.add{s:Sp}{L:List Itm}(h:Qck s L){q b:Int}(hq:0<=q/\q<=4294967295)(hb:0<=b/\b<4)(hn:∀ x∈L,x.i.seq≠q):Qck s (L++[⟨⟨q,b,-1,-1,0⟩,[],[]⟩]):=by
 ð⟨g1,g2,g3,g4,g5⟩:=h.ok.shp.z
 &⟨h.ok,h.w,λx hx=>?_,?_,λk hk ho=>?_⟩
 ·rcases Wn.1 hx with hx | hx
  ·~h.each x hx
  ·rw [Wo] at hx
   subst hx
   &⟨⟨⟨hq,hb,trivial,Yj,λk hk=>⟨λe=>?_,λe=>by cases e⟩,(λk hk e=>by cases e),rfl,rfl⟩,⟨by show (0:Int)<=0;omega,by show (0:Int)<=_;omega⟩,?_⟩,rfl⟩
   ·have e:s.fs[k].ow=q:=e
    ð⟨y,hy,hyk⟩:=h.all k hk (by rw [e];omega)
    have:=((h.each y hy).inc.ow k hk).2 hyk
    ~absurd (this.symm.trans e) (hn y hy)
   ·show ((0:Nat):Int)=clN s ((0:Nat):Int)
    rw [Qb2 h.ok.shp.sh Oo,WS,UY Oo]
 ·&W5.2 ⟨h.seqs,Os,λa ha b hb=>?_⟩
  rw [Wo] at hb
  subst hb
  ~hn a ha
 ·ð⟨y,hy,hyk⟩:=h.all k hk ho
  ~⟨y,by simp [hy],hyk⟩
theorem Qck.drop{s:Sp}{L:List Itm}{x:Itm}(h:Qck s (L++[x]))(h0:x.i.words=0):Qck s L:=by
 have hfr:=(h.each x Os).inc.nil h.ok.shp h0
 &⟨h.ok,h.w,λy hy=>h.each y (by simp [hy]),(W5.1 h.seqs).1,λk hk ho=>?_⟩
 ð⟨y,hy,hyk⟩:=h.all k hk ho
 rcases Wn.1 hy with h1 | h1
 ·~⟨y,h1,hyk⟩
 ·rw [Wo] at h1
  subst h1
  rw [hfr] at hyk
  cases hyk
abbrev newI(q b:Int):Itm:=⟨⟨q,b,-1,-1,0⟩,[],[]⟩
structure Qd1(h:Hp)(BL:List (List Itm))(l:List Inc)(C K:List Itm)(T0:Itm):Prop where
 ci:C.map Itm.i=l
 ti:T0.i=tgtI h l
 cin:∀ x∈C,x∈BL.flatten
 kin:∀ x,x∈K<->x∈BL.flatten/\x∉C/\x≠T0
 tin:(T0∈BL.flatten/\T0∉C)\/∃ b,T0=newI h.seq b
 tb:0<=T0.i.belt/\T0.i.belt<h.config.rules.length
 tw:0<T0.i.words<->T0∈BL.flatten
section
variable{h:Hp}{BL:List (List Itm)}{l:List Inc}
theorem QG.uniq(H:QG h BL){x y:Itm}(hx:x∈BL.flatten)(hy:y∈BL.flatten)(e:x.i.seq=y.i.seq):x=y:=by
 rcases pair_cases H.sp.seqs x hx y hy with k | k | k
 ·~k
 ·~absurd e k
 ·~absurd e.symm k
theorem QG.belt_in(H:QG h BL){x:Itm}(hx:x∈BL.flatten):∃ b:Nat,∃ hb:b<BL.length,x∈BL[b]/\x.i.belt=(b:Int):=by
 ð⟨q,hq,hxq⟩:=Vb.1 hx
 ð⟨b,hb,rfl⟩:=WN.1 hq
 ~⟨b,hb,hxq,H.blt b hb x hxq⟩
theorem QG.yng(H:QG h BL){t:Int}{y:Inc}(hy:yngR h.belts t=some y):∃ x∈BL.flatten,x.i=y/\y.belt=t:=by
 unfold yngR at hy
 split at hy
 ·cases hy
 ·rename_i h0
  cases hb:h.belts[t.toNat]? with
  | none=>rw [hb] at hy;cases hy
  | some q =>
   rw [hb,WQ] at hy
   have hm:=V6 hy
   rw [H.bl,Wh] at hb
   cases hb2:BL[t.toNat]? with
   | none=>rw [hb2] at hb;cases hb
   | some p =>
    rw [hb2,Wu] at hb
    injection hb with hb
    subst hb
    ð⟨x,hx,rfl⟩:=Wk.1 hm
    ð⟨hl,rfl⟩:=Wq.1 hb2
    &⟨x,Vb.2 ⟨_,Wc hl,hx⟩,rfl,?_⟩
    rw [H.blt _ hl x hx]
    omega
theorem TgtP.mem(H:QG h BL)(hT:TgtP h.belts l){i:Inc}(hi:i∈l):∃ x∈BL.flatten,x.i=i:=by
 ð⟨_,h1,_⟩:=hT
 have:=Ub (h1 i hi).1
 rw [H.flat] at this
 ð⟨x,hx,e⟩:=Wk.1 this
 ~⟨x,hx,e⟩
theorem TgtP.nodup(hT:TgtP h.belts l):(l.map Inc.seq).Nodup:=by
 ð⟨_,_,h2⟩:=hT
 ~h2.2.1
theorem tgt_belt(H:QG h BL)(hT:TgtP h.belts l):∃ t,(((h.config.rules[((l.head?).getD inc0).belt.toNat]?).map Rul.target).getD 0)=t/\0<=t/\t<h.config.rules.length:=by
 ð⟨x,hx,e⟩:=hT.mem H (i:=l[0]'hT.1) (Wc _)
 ð⟨b,hb,_,hbelt⟩:=H.belt_in hx
 have hbl:b<h.config.rules.length:=by rw [<- H.bn];~hb
 ð⟨_,_,_,q4,q5⟩:=H.cfg.rule b hbl
 &⟨h.config.rules[b].target,?_,?_⟩
 ·rw [Yi,Wa hT.1,WE,<- e,hbelt,Wd,Wa hbl]
  rfl
 ·rcases Ws (b+1) h.config.rules.length with c | c
  ·have:=q5 c;omega
  ·have:=(q4 Oo).2;omega
theorem step_parts(H:QG h BL)(hT:TgtP h.belts l):∃ C K T0,Qd1 h BL l C K T0:=by
 ð⟨t,et,t0,t1⟩:=tgt_belt H hT
 have hC:∀ l:List Inc,(∀ i∈l,∃ x∈BL.flatten,x.i=i)->∃ C:List Itm,C.map Itm.i=l/\∀ x∈C,x∈BL.flatten:=by
  intro l
  induction l with
  | nil=>intro _;~⟨[],rfl,λx hx=>absurd hx (Vx)⟩
  | cons i l ih =>
   intro hl
   ð⟨x,hx,e⟩:=hl i (WA ..)
   ð⟨C,c1,c2⟩:=ih λj hj=>hl j (Wm _ hj)
   &⟨x :: C,by rw [Vg,e,c1],λy hy=>?_⟩
   rcases Wt.1 hy with rfl | hy
   ·~hx
   ·~c2 y hy
 ð⟨C,c1,c2⟩:=hC l λi hi=>hT.mem H hi
 have fin:∀ T0:Itm,T0.i=tgtI h l->((T0∈BL.flatten/\T0∉C)\/∃ b,T0=newI h.seq b)->(0<=T0.i.belt/\T0.i.belt<h.config.rules.length)->∃ C K T0,Qd1 h BL l C K T0:=λT0 h1 h2 h3=>by
  &⟨C,BL.flatten.filter λx=>bP (x∉C/\x≠T0),T0,c1,h1,c2,λx=>?_,h2,h3,?_⟩
  ·rw [WI,QE]
  ·constructor
   ·intro hw
    rcases h2 with h2 | ⟨b,rfl⟩
    ·~h2.1
    ·~absurd hw (Int.lt_irrefl 0)
   ·intro hm
    have:=H.pos T0 hm
    omega
 have hnew:tgtI h l=⟨h.seq,t,-1,-1,0⟩->∃ C K T0,Qd1 h BL l C K T0:=λe=>fin (newI h.seq t) e.symm (.inr ⟨t,rfl⟩) ⟨t0,t1⟩
 cases hy:yngR h.belts t with
 | none =>
  &hnew ?_
  unfold tgtI
  rw [et]
  dsimp only
  rw [hy]
 | some y =>
  by_cases hc:(l.any λx=>decide (x.seq=y.seq))=false/\(capV h.config t h.space.fs.length=0\/y.words<w64 (capV h.config t h.space.fs.length*(szS h.space:Int)))
  ·ð⟨x,hx,e,eb⟩:=H.yng hy
   &fin x ?_ (.inl ⟨hx,λhxc=>?_⟩) ?_
   ·unfold tgtI
    rw [et]
    dsimp only
    rw [hy]
    dsimp only
    rw [if_pos hc]
    ~e
   ·have h1:=hc.1
    rw [List.any_eq_false] at h1
    &h1 x.i (by rw [<- c1];~W0 hxc) ?_
    rw [e];simp
   ·rw [e,eb];~⟨t0,t1⟩
  ·&hnew ?_
   unfold tgtI
   rw [et]
   dsimp only
   rw [hy]
   dsimp only
   rw [if_neg hc]
theorem obj_frame{s:Sp}(hs:ZL s){x:Itm}(hx:QaC s x){p r d:Nat}(hp:(p,r,d)∈obs 0 x.os){k:Nat}(hk:k<=r+d):X7 s ((adr (szS s) x.fr (p+k):Nat):Int)∈x.fr:=by
 have hz:=(Jm hs.shp.sh).2.2.1
 have:=Itm.posOk hs hx hp
 unfold X7
 rw [Wd]
 ~adr_fr Oo Oo
theorem ref_ok(H:QG h BL){C K:List Itm}{T0:Itm}(S:Qd1 h BL l C K T0){w:Int}(hr:RefW (szS h.space) BL.flatten w):RefOk h.space C w:=by
 intro hwin
 rcases hr with hr | ⟨hr1,r',d',y,hy,p',hp',ea⟩
 ·~absurd hr hwin.1.1
 ·ð⟨c,hc,hcf⟩:=(Qf8 λx hx=>(H.sp.each x (S.cin x hx)).inc.toIncC).1 hwin.2
  have hf:=obj_frame H.sp.ok (H.sp.each y hy) hp' (k:=0) Oo
  rw [VW,<- ea,show (((w-1).toNat:Nat):Int)=w-1 by omega] at hf
  have e:y=c:=by
   &Classical.byContradiction λhne=>?_
   ~(H.sp.each y hy).inc.toIncC.disj (H.sp.each c (S.cin c hc)).inc.toIncC (λe=>hne (H.uniq hy (S.cin c hc) e)) _ hf hcf
  ~⟨r',d',y,e▸hc,p',hp',ea⟩
theorem step_ctx(H:QG h BL)(hT:TgtP h.belts l){C K:List Itm}{T0:Itm}(S:Qd1 h BL l C K T0)(hq:h.seq<=4294967295)(hneed:sumF h.space C<=(Qk h.space.fs).length)(hl:l.length<=1000000):EvC h.space C K T0:=by
 have hnd:=hT.nodup
 have hT0:QaC h.space T0:=by
  rcases S.tin with k | ⟨b,e⟩
  ·~H.sp.each T0 k.1
  ·have hb:=S.tb
   have hr:=H.cfg.len
   rw [e] at hb ⊢
   have:=H.sp.add (q:=h.seq) (b:=b) ⟨H.sq0,hq⟩ ⟨hb.1,by dsimp only at hb;omega⟩ λx hx=>by have:=H.sq x hx;omega
   ~this.each _ (Wj _ (Wo.2 rfl))
 have hsT:∀ x∈BL.flatten,x≠T0->x.i.seq≠T0.i.seq:=λx hx hne e=>by
  rcases S.tin with k | ⟨b,e2⟩
  ·~hne (H.uniq hx k.1 e)
  ·have:=H.sq x hx
   rw [e2] at e
   dsimp only at e
   omega
 have hCT:∀ x∈C,x≠T0:=λx hx e=>by
  rcases S.tin with k | ⟨b,e2⟩
  ·~k.2 (e▸hx)
  ·have:=H.sq x (S.cin x hx)
   rw [e,e2] at this
   dsimp only at this
   omega
 have hin:∀ x∈C++K,x∈BL.flatten/\x≠T0:=λx hx=>by
  rcases Wn.1 hx with k | k
  ·~⟨S.cin x k,hCT x k⟩
  ·~⟨((S.kin x).1 k).1,((S.kin x).1 k).2.2⟩
 &⟨⟨H.sp.ok,H.sp.w,λx hx=>H.sp.each x (S.cin x hx),λx hx=>H.sp.each x ((S.kin x).1 hx).1,hT0,λx hx=>hsT x (hin x hx).1 (hin x hx).2,λx hx y hy e=>?_,λx hx y hy e=>H.uniq (hin x hx).1 (hin y hy).1 e,λk hk h0=>?_,λx hx p r d hp k h1 h2 w hw=>?_,by rw [<- Wb (f:=Itm.i),S.ci];~hl,?_⟩,hneed⟩
 ·have h2:=(S.kin y).1 hy
  ~h2.2.1 (H.uniq (S.cin x hx) h2.1 e▸hx)
 ·ð⟨x,hx,hkx⟩:=H.sp.all k hk h0
  by_cases c1:x=T0
  ·~.inl (c1▸hkx)
  ·by_cases c2:x∈C
   ·~.inr ⟨x,Wf _ c2,hkx⟩
   ·~.inr ⟨x,Wj _ ((S.kin x).2 ⟨hx,c2,c1⟩),hkx⟩
 ·
  have hslot:QaB (szS h.space) BL.flatten (adr (szS h.space) x.fr (p+k)):=⟨x,S.cin x hx,p,r,d,hp,k,h1,h2,rfl⟩
  have hr:=H.refs _ hslot
  rw [Jk hw] at hr
  ~ref_ok H S hr
 ·rw [<- S.ci,W3] at hnd
  rw [Vh] at hnd ⊢
  rw [Vc] at hnd
  ~hnd.imp λk e=>k (by rw [e])
end
def wrtL:List Int->List Int->List Int->List Int
 | l,q :: qs,v :: vs=>wrtL (l.set q.toNat v) qs vs
 | l,_,_=>l
theorem QfG:∀ (qs vs l:List Int) (q v:Int),qs.length=vs.length->wrtL l (qs++[q]) (vs++[v])=(wrtL l qs vs).set q.toNat v
 | [],[],l,q,v,_=>rfl
 | a :: qs,b :: vs,l,q,v,h=>QfG qs vs _ q v (by simpa using h)
@[simp] theorem QbL:∀ (qs vs l:List Int),(wrtL l qs vs).length=l.length
 | [],vs,l=>by cases vs <;> rfl
 | a :: qs,[],l=>rfl
 | a :: qs,b :: vs,l=>by show (wrtL _ qs vs).length=_;rw [QbL qs vs,Wv]
theorem Qei:∀ (qs vs l:List Int) (x:Nat),(∀ q∈qs,q.toNat≠x)->(wrtL l qs vs)[x]?=l[x]?
 | [],vs,l,x,_=>by cases vs <;> rfl
 | a :: qs,[],l,x,_=>rfl
 | a :: qs,b :: vs,l,x,h=>by
  show (wrtL _ qs vs)[x]?=_
  rw [Qei qs vs _ x λq hq=>h q (Wm _ hq),WC (h a (WA ..))]
theorem wrtL_at:∀ (qs vs l:List Int),qs.Pairwise (λa b=>a.toNat≠b.toNat)->qs.length=vs.length->(∀ q∈qs,q.toNat<l.length)->∀ (j:Nat) (q v:Int),qs[j]?=some q->vs[j]?=some v->(wrtL l qs vs)[q.toNat]?=some v
 | [],vs,l,_,_,_,j,q,v,h,_=>by simp at h
 | a :: qs,[],l,_,h,_,_,_,_,_,_=>by simp at h
 | a :: qs,b :: vs,l,hp,hl,hb,0,q,v,h1,h2=>by
  injection h1 with h1;injection h2 with h2
  subst h1;subst h2
  have h3:=Vs.1 hp
  show (wrtL _ qs vs)[a.toNat]?=_
  rw [Qei qs vs _ _ λq hq e=>h3.1 q hq e.symm,WD (hb a (WA ..))]
 | a :: qs,b :: vs,l,hp,hl,hb,j+1,q,v,h1,h2=>by
  have h3:=Vs.1 hp
  ~wrtL_at qs vs _ h3.2 (by simpa using hl) (λq hq=>by rw [Wv];~hb q (Wm _ hq)) j q v h1 h2
theorem wrtL_all{p:Int->Prop}:∀ (qs vs l:List Int),(∀ x∈l,p x)->(∀ x∈vs,p x)->∀ x∈wrtL l qs vs,p x
 | [],vs,l,h,_=>by cases vs <;> ~h
 | a :: qs,[],l,h,_=>h
 | a :: qs,b :: vs,l,h,k=>wrtL_all qs vs _ (λx hx=>by
   rcases W4 hx with hx | rfl
   ·~h x hx
   ·~k x (WA ..)) λx hx=>k x (Wm _ hx)
noncomputable def stpW(h:Hp)(l:List Inc):List Int:=(QaS h.space h.roots l).map (QD h.roots)++(Qcm h.space h.sets l).map (wAt h.space)
noncomputable def XV(h:Hp)(l:List Inc):EvS×List Int:=runE l h.space (tgtI h l) (stpW h l)
noncomputable def stpR(h:Hp)(l:List Inc):List Int:=wrtL h.roots.refs ((QaS h.space h.roots l).map λ(i:Nat)=>(i:Int)) ((XV h l).2.take (QaS h.space h.roots l).length)
noncomputable def Xx(h:Hp)(l:List Inc):Sp:=⟨h.space.sh,wrtL (XV h l).1.s.ws (Qcm h.space h.sets l) ((XV h l).2.drop (QaS h.space h.roots l).length),(XV h l).1.s.fs⟩
noncomputable def Qbq(s:Sp)(l:List Inc):Sp:=l.foldl (λs x=>⟨s.sh,Qcj (szS s) s.fs x.seq s.ws,QaT s.fs x.seq⟩) s
theorem clrA_sh:∀ (l:List Inc) (s:Sp),(Qbq s l).sh=s.sh
 | [],s=>rfl
 | x :: l,s=>by
  show (Qbq ⟨s.sh,Qcj (szS s) s.fs x.seq s.ws,QaT s.fs x.seq⟩ l).sh=s.sh
  rw [clrA_sh l]
def remA(B:List (List Inc))(l:List Inc):List (List Inc):=l.foldl (λB x=>remB B x.seq) B
noncomputable def stpB(h:Hp)(l:List Inc):List (List Inc)×Int :=
 if 0<(tgtI h l).words then (repB (remA h.belts l) (XV h l).1.to,h.seq)
 else if 0<(XV h l).1.to.words then (addB (remA h.belts l) (XV h l).1.to,w64 (h.seq+1)) else (remA h.belts l,h.seq)
noncomputable def stpN(h:Hp)(l:List Inc):Int:=intoN h.sets ((cfr h.space.fs l).map λ(k:Nat)=>(k:Int))
noncomputable def stpP(h:Hp)(l:List Inc):Rpt :=
 let u:=w64 ((XV h l).1.to.words-(tgtI h l).words)
 ⟨sumW l,u,stpN h l,w64 (w64 (((Zv h.roots).length:Int)+stpN h l)+w64 (2*u))⟩
noncomputable def ZG(h:Hp)(l:List Inc):Hp :=
 ⟨h.config,⟨h.space.sh,(Qbq (Xx h l) l).ws,(Qbq (Xx h l) l).fs⟩,(stpB h l).1,(stpB h l).2,renK (Xx h l) h.sets l (Qcm h.space h.sets l) (XV h l).1.mv,⟨h.roots.used,stpR h l⟩,h.since,
  ⟨h.stats.allocated,h.stats.objects,h.stats.collections,w64 (h.stats.steps+1),h.stats.rounds,w64 (h.stats.condemned+(stpP h l).condemned),w64 (h.stats.copied+(stpP h l).survived),w64 (h.stats.entries+(stpP h l).entries),w64 (h.stats.work+(stpP h l).work)⟩,h.dead⟩
theorem QfL(h:Hp)(l:List Inc):(ZG h l).space=Qbq (Xx h l) l:=by
 show (⟨h.space.sh,(Qbq (Xx h l) l).ws,(Qbq (Xx h l) l).fs⟩:Sp)=_
 have:=clrA_sh l (Xx h l)
 rw [<- show (Qbq (Xx h l) l).sh=h.space.sh from this]
theorem copy20_c{r:Rts}(h1:r.used.length<=1000000)(h2:r.refs.length<=1000000):ZY r=some r:=by
 &Gd.eq ?_
 unfold ZY
 ~.pos (len_in h1 Oo) (.pos (len_in h2 Oo) (.some rfl))
section
variable{h:Hp}{BL:List (List Itm)}
theorem QG.small(H:QG h BL):h.space.ws.length<=16384/\h.space.fs.length<=64/\h.roots.used.length=32/\h.roots.refs.length=32/\h.sets.length<=4096:=⟨Z7 H.sp.ok,H.sp.ok.shp.hi,H.rts.u,H.rts.v,H.sok.len⟩
theorem Qb0(H:QG h BL):QH h=some h:=by
 ð⟨a,b,c,d,e⟩:=H.small
 have hl:=H.cfg.len
 have hs:=H.sok.sz H.sin
 &Gd.eq ?_
 unfold QH
 &.pos (len_in Oo Oo) ?_
 &.call (copy_c Oo Oo) (.call (QfA H.bsz) (.call (rcopy_c _ Oo λx hx=>by have:=hs.2 x hx;omega) (.call (copy20_c Oo Oo) (.some rfl))))
end
theorem map_ite'{α β:Type}{c:Prop}[Decidable c]{x y:Option α}(f:α->β):(if c then x else y).map f=if c then x.map f else y.map f:=by split <;> rfl
def LS.mp{σ τ β γ:Type}(I:τ->σ)(J:γ->β):LS τ γ->LS σ β
 | .go t=>.go (I t)
 | .out c=>.out (J c)
theorem Qf4{σ τ β γ:Type}{f:σ->Option (LS σ β)}{g:τ->Option (LS τ γ)}(I:τ->σ)(J:γ->β)(h:∀ t,f (I t)=(g t).map (LS.mp I J)):∀ n t,Qbx f n (I t)=(Qbx g n t).map J
 | 0,t=>rfl
 | n+1,t=>by
  unfold Qbx
  rw [h t]
  cases hg:g t with
  | none=>rfl
  | some y =>
   cases y with
   | go t'=>~Qf4 I J h n t'
   | out c=>rfl
theorem loop_sim{σ τ β γ:Type}{f:σ->Option (LS σ β)}{g:τ->Option (LS τ γ)}(I:τ->σ)(J:γ->β)(h:∀ t,f (I t)=(g t).map (LS.mp I J))(t:τ):Qh f (I t)=(Qh g t).map J:=by
 cases hg:Qh g t with
 | some c =>
  ð⟨n,hn⟩:=Qak.1 hg
  ~Qak.2 ⟨n,by rw [Qf4 I J h,hn];rfl⟩
 | none =>
  cases hf:Qh f (I t) with
  | none=>rfl
  | some b =>
   ð⟨n,hn⟩:=Qak.1 hf
   rw [Qf4 I J h] at hn
   cases hgn:Qbx g n t with
   | none=>rw [hgn] at hn;cases hn
   | some c =>
    have:=Qak.2 ⟨n,hgn⟩
    rw [hg] at this
    cases this
theorem bind_sim{σ τ β γ δ:Type}{f:σ->Option (LS σ β)}{g:τ->Option (LS τ γ)}{K2:β->Option δ}{K1:γ->Option δ}(I:τ->σ)(J:γ->β){t:τ}{s:σ}(hs:I t=s)(h:∀ t,f (I t)=(g t).map (LS.mp I J))(hk:∀ c,K2 (J c)=K1 c):(Qh f s).bind K2=(Qh g t).bind K1:=by
 subst hs
 rw [loop_sim I J h,U4]
 congr 1
 funext c
 ~hk c
theorem note2_eq(s:Sp)(l:List Qe)(x w:Int):Xl s l x w=(Zk s l x w).map λr=>(r,s.ws,s.fs):=by
 unfold Xl Zk
 simp only [map_ite',Uv,Function.comp_def,Wu]
theorem renew2_eq(s:Sp)(l:List Qe)(c:List Inc)(ps:List Int)(mv:List Mov):Zq s l c ps mv=(QaM s l c ps mv).map λr=>(r,s.ws,s.fs):=by
 ð⟨sh,ws,fs⟩:=s
 unfold Zq QaM
 simp only [Uv,Function.comp_def,note2_eq]
 congr 1
 funext v1
 congr 1
 funext v2
 &bind_sim (λt:List Qe×Int=>(ws,fs,t.1,t.2)) (λr=>(ws,fs,r)) rfl (λt=>?_) (λc=>?_)
 ·simp only [map_ite',Uv,U4,Function.comp_def,if_true,Wu,LS.mp]
 ·&bind_sim (λt:List Qe×Int=>(ws,fs,t.1,t.2)) (λr=>(ws,fs,r)) rfl (λt=>?_) (λc=>?_)
  ·simp only [map_ite',Uv,Function.comp_def,Wu,LS.mp,Option.bind_assoc]
   by_cases h:t.2<(mv.length:Int)
   ·rw [if_pos h,if_pos h]
    congr 1
    funext v3
    congr 1
    funext v4
    &bind_sim (λt:List Qe×Int=>(ws,fs,t.1,t.2)) (λr=>(ws,fs,r)) rfl (λt=>?_) (λc=>rfl)
    simp only [map_ite',Uv,U4,Function.comp_def,if_true,Wu,LS.mp]
   ·rw [if_neg h,if_neg h]
  ·rfl
theorem flat_remB(B:List (List Inc))(q:Int):(remB B q).flatten=B.flatten.filter λx=>!decide (x.seq=q):=by
 unfold remB
 rw [Yu]
theorem BSz.rem{B:List (List Inc)}(h:BSz B)(q:Int):BSz (remB B q):=by
 unfold remB
 &⟨by rw [Wb];~h.1,λp hp=>?_⟩
 ð⟨b,hb,rfl⟩:=Wk.1 hp
 have:=h.2 b hb
 have:=W8 (λx:Inc=>!decide (x.seq=q)) b
 omega
theorem QbP:∀ (l:List Inc) (B:List (List Inc)),remA B l=B.map λp=>p.filter λx=>!decide (x.seq∈l.map Inc.seq)
 | [],B=>by
  show B=_
  have:(λp:List Inc=>p.filter λx=>!decide (x.seq∈([]:List Inc).map Inc.seq))=id:=by funext p;simp
  rw [this,Y6]
 | i :: l,B=>by
  show remA (remB B i.seq) l=_
  rw [QbP l]
  unfold remB
  rw [W3]
  &WW λp _=>?_
  show (p.filter λx=>!decide (x.seq=i.seq)).filter _=_
  rw [List.filter_filter]
  &UT λx _=>?_
  rw [Vg]
  by_cases e:x.seq=i.seq <;> simp [e]
theorem shp_clr{s:Sp}(hs:Qc4 s)(q:Int):Qc4 ⟨s.sh,Qcj (szS s) s.fs q s.ws,QaT s.fs q⟩:=by
 &⟨hs.sh,by show 2<=(QaT s.fs q).length;unfold QaT;rw [Wb];~hs.lo,by show (QaT s.fs q).length<=64;unfold QaT;rw [Wb];~hs.hi,?_⟩
 show (Qcj (szS s) s.fs q s.ws).length=(QaT s.fs q).length*szS s
 unfold QaT Qcj
 rw [Wb,Uf]
 ~hs.wl
theorem clear_loop{Q:List Int×List Fe×List (List Inc)->Prop}{l:List Inc}{s:Sp}{B:List (List Inc)}(hs:Qc4 s)(hB:BSz B)(hd:B.flatten.Pairwise λx y=>x.seq≠y.seq)(hm:∀ i∈l,∃ x∈B.flatten,x.seq=i.seq)(hn:(l.map Inc.seq).Nodup)(hl:l.length<=1000000)
    (hQ:Q ((Qbq s l).ws,(Qbq s l).fs,remA B l)) :
    Gd Q (Qh (λ(s72:List Int×List Fe×List (List Inc)×Int) =>
       if s72.2.2.2<(l.length:Int) then
       ((at_ l s72.2.2.2).bind λv77 =>
       (ZJ s72.2.2.1 v77.seq).bind λv78 =>
       (Zf (Sp.mk s.sh s72.1 s72.2.1) v77.seq).bind λv79 =>
       if v79.2.1.length=s72.1.length then
       if v79.2.2.length=s72.2.1.length then
       some (LS.go ((v79.2.1,v79.2.2,v78.1,w64 (s72.2.2.2+1))))
       else none
       else none)
       else
       some (LS.out ((s72.1,s72.2.1,s72.2.2.1)))) (s.ws,s.fs,B,0)):=by
  &Gd.for l.length (λ(t:Sp×List (List Inc)) i=>(t.1.ws,t.1.fs,t.2,i)) (λi t=>t.1=Qbq s (l.take i)/\t.2=remA B (l.take i)/\t.1.sh=s.sh/\Qc4 t.1/\BSz t.2/\t.2.flatten.Pairwise (λx y=>x.seq≠y.seq)/\∀ j∈l.drop i,∃ x∈t.2.flatten,x.seq=j.seq) (s,B) rfl (λ_ _=>rfl) Oo
    ⟨rfl,rfl,rfl,hs,hB,hd,hm⟩ (λi hi t ht=>?_) (λt ht=>?_)
  · ð⟨t1,t2,t3,t4,t5,t6,t7⟩:=ht
    &.atN hi (.call (remove11_c t5 _ t6 (t7 _ (by rw [Vk hi];~WA ..))) ?_)
    ð⟨n,hn2⟩:=clear_c t4 l[i].seq
    have es:(⟨s.sh,t.1.ws,t.1.fs⟩:Sp)=t.1:=by rw [<- t3]
    &.call (a:=(n,Qcj (szS t.1) t.1.fs l[i].seq t.1.ws,QaT t.1.fs l[i].seq)) (by
      show Zf ⟨s.sh,t.1.ws,t.1.fs⟩ _=_
      rw [es];~hn2) ?_
    have f1:=shp_clr t4 l[i].seq
    &.pos (by show (Qcj (szS t.1) t.1.fs l[i].seq t.1.ws).length=t.1.ws.length;unfold Qcj;rw [Uf]) (.pos (by show (QaT t.1.fs l[i].seq).length=t.1.fs.length;unfold QaT;rw [Wb]) (.some (.inl ⟨(⟨t.1.sh,Qcj (szS t.1) t.1.fs l[i].seq t.1.ws,QaT t.1.fs l[i].seq⟩,remB t.2 l[i].seq),rfl,?_,?_,t3,f1,t5.rem _,?_,λj hj=>?_⟩)))
    · unfold Qbq
      rw [Qeu hi,show (l.take i).foldl _ s=Qbq s (l.take i) from rfl,<- t1]
    · unfold remA
      rw [Qeu hi,show (l.take i).foldl _ B=remA B (l.take i) from rfl,<- t2]
    · dsimp only
      rw [flat_remB]
      ~t6.filter _
    · have hj':j∈l.drop i:=by rw [Vk hi];~Wm _ hj
      ð⟨x,hx,e⟩:=t7 j hj'
      &⟨x,?_,e⟩
      dsimp only
      rw [flat_remB,WI]
      &⟨hx,?_⟩
      simp only [Vy,decide_eq_false_iff_not]
      intro c
      have hj2:j.seq∈(l.drop (i+1)).map Inc.seq:=W0 hj
      have e2:l.map Inc.seq=(l.take i).map Inc.seq++(l[i].seq :: (l.drop (i+1)).map Inc.seq):=by rw [<- Vg,<- Vk hi,<- WH,Vu]
      rw [e2] at hn
      have:=(Uu.1 (Um.1 hn).2.1).1
      apply this
      rw [<- c,e]
      ~hj2
  · ð⟨t1,t2,_⟩:=ht
    rw [WR] at t1 t2
    dsimp only
    rw [t1,t2]
    ~hQ
def stmp(i:Inc):Int:=i.belt*4294967296+i.seq
section
variable{h:Hp}{BL:List (List Itm)}{l:List Inc}{C K:List Itm}{T0:Itm}
theorem QG.order(H:QG h BL):BL.flatten.Pairwise λx y=>stmp x.i<stmp y.i:=by
 have hsq:∀ x∈BL.flatten,0<=x.i.seq/\x.i.seq<=4294967295:=λx hx=>(H.sp.each x hx).inc.sq
 have key:∀ (B:List (List Itm)) (n:Nat),(∀ b (hb:b<B.length),∀ x∈B[b],x.i.belt=((n+b:Nat):Int))->(∀ q∈B,q.Pairwise λx y=>x.i.seq<y.i.seq)->(∀ x∈B.flatten,0<=x.i.seq/\x.i.seq<=4294967295)->B.flatten.Pairwise λx y=>stmp x.i<stmp y.i:=by
  intro B
  induction B with
  | nil=>intro _ _ _ _;~.nil
  | cons q B ih =>
   intro n h1 h2 h3
   have hq:∀ x∈q,x.i.belt=((n:Nat):Int):=λx hx=>h1 0 Os x hx
   rw [Vi,W5]
   &⟨?_,ih (n+1) (λb hb x hx=>?_) (λp hp=>h2 p (Wm _ hp)) (λx hx=>h3 x (by rw [Vi];~Wj _ hx)),λx hx y hy=>?_⟩
   ·&(Wy.2 λi j hi hj hij=>?_)
    have:=Wy.1 (h2 q (WA ..)) i j hi hj hij
    have e1:=hq _ (Wc hi)
    have e2:=hq _ (Wc hj)
    unfold stmp
    omega
   ·have:=h1 (b+1) (by simp;omega) x (by simpa using hx)
    rw [this];push_cast;omega
   ·ð⟨p,hp,hyp⟩:=Vb.1 hy
    ð⟨b,hb,rfl⟩:=WN.1 hp
    have e1:=hq x hx
    have e2:=h1 (b+1) (by simp;omega) y (by simpa using hyp)
    have e3:=h3 x (by rw [Vi];~Wf _ hx)
    have e4:=h3 y (by rw [Vi];~Wj _ hy)
    unfold stmp
    rw [e1,e2]
    push_cast
    omega
 ~key BL 0 (λb hb x hx=>by rw [H.blt b hb x hx];simp) H.asc hsq
theorem step_first(H:QG h BL)(hT:TgtP h.belts l)(S:Qd1 h BL l C K T0){c x:Itm}(hc:c∈C)(hx:x∈BL.flatten)(hn:x∉C):stmp c.i<stmp x.i:=by
 ð⟨_,_,hlen,_,p1,p2⟩:=hT
 have hfl:=H.flat
 rw [hfl] at p1 p2 hlen
 rw [Wb] at p1 p2 hlen
 rw [Wb] at hlen
 have htk:(BL.flatten.map Itm.i).take l.length=(BL.flatten.take l.length).map Itm.i:=by rw [Yp]
 rw [htk] at p1 p2
 have hcs:c.i.seq∈l.map Inc.seq:=by rw [<- S.ci,W3];~W0 (f:=Inc.seq∘Itm.i) hc
 ð⟨i,hi,ei⟩:=p1 _ hcs
 ð⟨c',hc',rfl⟩:=Wk.1 hi
 have ecc:c'=c:=H.uniq (VU hc') (S.cin c hc) ei
 subst ecc
 have hxd:x∈BL.flatten.drop l.length:=by
  have hx':=hx
  rw [<- Vu l.length BL.flatten] at hx'
  rcases Wn.1 hx' with k | k
  ·exfalso
   have:=p2 x.i (W0 k)
   rw [<- S.ci,W3] at this
   ð⟨y,hy,e⟩:=Wk.1 this
   ~hn (H.uniq (S.cin y hy) hx e▸hy)
  ·~k
 have:=H.order
 rw [<- Vu l.length BL.flatten] at this
 ~(W5.1 this).2.2 _ hc' _ hxd
theorem Z2{s:Sp}(hs:ZL s){x:Itm}(hx:QaC s x){p r d k:Nat}(hp:(p,r,d)∈obs 0 x.os)(hk:k<=r+d){q:Int}(hq0:0<=q)(hq:q.toNat=adr (szS s) x.fr (p+k)):X7 s q∈x.fr/\q<s.ws.length:=by
 have h1:=obj_frame hs hx hp hk
 have h2:=Itm.posOk hs hx hp
 have h3:=Jo hs.shp hx.inc.ch.lt (p:=p+k) Oo
 rw [<- hq,show ((q.toNat:Nat):Int)=q by omega] at h1
 ~⟨h1,Oo⟩
theorem Qdn(H:QG h BL)(S:Qd1 h BL l C K T0){k:Nat}:((k:Nat):Int)∈(cfr h.space.fs l).map (λ(k:Nat)=>(k:Int))<->∃ c∈C,k∈c.fr:=by
 rw [mem_nat,Qf1,<- S.ci]
 ~Qf8 λx hx=>(H.sp.each x (S.cin x hx)).inc.toIncC
theorem QaG(H:QG h BL)(S:Qd1 h BL l C K T0){q:Int}(hq:q∈Qcm h.space h.sets l):0<=q/\QdJ h.space l (wAt h.space q)/\∃ x∈BL.flatten,x∉C/\∃ p r d,(p,r,d)∈obs 0 x.os/\∃ k,1<=k/\k<=r/\q.toNat=adr (szS h.space) x.fr (p+k):=by
 unfold Qcm at hq
 rw [WI,QE] at hq
 ð⟨hm,hlt,hw⟩:=hq
 ð⟨y,hy,h1,h2,h3⟩:=Qf0.1 hm
 have h0:=(H.sin y hy q h3).1
 ð⟨⟨x,hx,p,r,d,hp,k,k1,k2,e⟩,hf,_⟩:=H.snd y.frm y.to q ⟨y,hy,rfl,rfl,h3⟩
 &⟨h0,hw,x,hx,λhc=>h2 ?_,p,r,d,hp,k,k1,k2,e⟩
 have:=(Z2 H.sp.ok (H.sp.each x hx) hp Oo h0 e).1
 rw [hf]
 ~(Qdn H S).2 ⟨x,hc,this⟩
theorem slot_in(H:QG h BL)(hT:TgtP h.belts l)(S:Qd1 h BL l C K T0){x:Itm}(hx:x∈BL.flatten)(hn:x∉C){p r d k:Nat}(hp:(p,r,d)∈obs 0 x.os)(h1:1<=k)(h2:k<=r)(hw:QdJ h.space l (wAt h.space ((adr (szS h.space) x.fr (p+k):Nat):Int))):((adr (szS h.space) x.fr (p+k):Nat):Int)∈Qcm h.space h.sets l:=by
 generalize hq:((adr (szS h.space) x.fr (p+k):Nat):Int)=q at hw ⊢
 have hq0:0<=q:=by omega
 have hqn:q.toNat=adr (szS h.space) x.fr (p+k):=by omega
 ð⟨f1,f2⟩:=Z2 H.sp.ok (H.sp.each x hx) hp Oo hq0 hqn
 have hslot:QaB (szS h.space) BL.flatten (adr (szS h.space) x.fr (p+k)):=⟨x,hx,p,r,d,hp,k,h1,h2,rfl⟩
 have hu:U64 (wAt h.space q):=QfH H.sp.w q
 unfold U64 at hu
 have hw2:=hw.2
 rw [<- S.ci] at hw2
 ð⟨c,hc,hcf⟩:=(Qf8 λx hx=>(H.sp.each x (S.cin x hx)).inc.toIncC).1 hw2
 have hci:=(H.sp.each c (S.cin c hc)).inc.toIncC
 have hxi:=(H.sp.each x hx).inc.toIncC
 have b1:=hci.ch.lt _ hcf
 have b2:=hxi.ch.lt _ f1
 have hord:=step_first H hT S hc hx hn
 have hneed:QaL h.space q (wAt h.space q):=by
  &⟨⟨hw.1.1,hw.1.2,hq0,f2⟩,b2,b1,?_,?_,?_⟩
  ·rw [(hxi.ow _ b2).2 f1];have:=hxi.sq;omega
  ·rw [(hci.ow _ b1).2 hcf];have:=hci.sq;omega
  ·rw [hxi.st _ b2 f1,hci.st _ b1 hcf]
   unfold stmp at hord
   ~hord
 have hcmp:=H.cmp _ hslot (by rw [hq];~hneed)
 rw [hq] at hcmp
 ð⟨y,hy,e1,e2,e3⟩:=hcmp
 unfold Qcm
 rw [WI,QE]
 &⟨Qf0.2 ⟨y,hy,?_,?_,e3⟩,f2,hw⟩
 ·rw [e2];~(Qdn H S).2 ⟨c,hc,hcf⟩
 ·rw [e1]
  intro hm
  ð⟨c',hc',hf'⟩:=(Qdn H S).1 hm
  &hxi.disj (H.sp.each c' (S.cin c' hc')).inc.toIncC (λe=>hn ?_) _ f1 hf'
  ~H.uniq hx (S.cin c' hc') e▸hc'
theorem entL_asc(s:Sp)(sets:List Qe)(l:List Inc):(Qcm s sets l).Pairwise (· < ·):=(Asc.pw.1 (Qga _ _)).filter _
theorem ent_len(H:QG h BL):(Qcm h.space h.sets l).length<=16384:=by
 have h1:=asc_le (Qga h.sets ((cfr h.space.fs l).map λ(k:Nat)=>(k:Int))) (intoL_rng H.sin)
 have h2:=W8 (λ(x:Int)=>bP (x<(h.space.ws.length:Int)/\QdJ h.space l (wAt h.space x))) (intoL h.sets ((cfr h.space.fs l).map λ(k:Nat)=>(k:Int)))
 unfold Qcm
 omega
theorem hdl_len(H:QG h BL):(QaS h.space h.roots l).length<=32:=by
 have h1:=W8 (λi=>bP (QdJ h.space l (QD h.roots i))) (Zv h.roots)
 have h2:=liveN_len h.roots
 have h3:=H.rts.u
 unfold QaS
 omega
theorem Qgc{i:Nat}(hi:i∈QaS h.space h.roots l):i∈Zv h.roots/\QdJ h.space l (QD h.roots i):=by
 unfold QaS at hi
 rw [WI,QE] at hi
 ~hi
theorem refAt_u{r:Rts}(hr:Qb6 r)(i:Nat):U64 (QD r i):=by
 unfold QD
 cases hg:r.refs[i]? with
 | none=>show U64 0;unfold U64;omega
 | some v=>~hr.w v (Wp hg)
theorem stpW_ok(H:QG h BL)(S:Qd1 h BL l C K T0):(∀ w∈stpW h l,U64 w/\RefOk h.space C w)/\(stpW h l).length<=100000:=by
 have h1:=ent_len H (l:=l)
 have h2:=hdl_len H (l:=l)
 &⟨λw hw=>?_,by unfold stpW;rw [We,Wb,Wb];omega⟩
 unfold stpW at hw
 rcases Wn.1 hw with hw | hw
 ·ð⟨i,hi,rfl⟩:=Wk.1 hw
  ~⟨refAt_u H.rts i,ref_ok H S (.inr (H.roots i (Qgc hi).1))⟩
 ·ð⟨q,hq,rfl⟩:=Wk.1 hw
  ð⟨q0,_,x,hx,_,p,r,d,hp,k,k1,k2,e⟩:=QaG H S hq
  &⟨QfH H.sp.w q,ref_ok H S ?_⟩
  have:=H.refs _ ⟨x,hx,p,r,d,hp,k,k1,k2,rfl⟩
  rwa [<- e,show ((q.toNat:Nat):Int)=q by omega] at this
end
section
variable{h:Hp}{BL:List (List Itm)}{l:List Inc}{C K:List Itm}{T0 T:Itm}{M:List (Nat×Nat×Nat)}
abbrev StpR(h:Hp)(l:List Inc)(C K:List Itm)(T0 T:Itm)(M:List (Nat×Nat×Nat)):Prop:=EvR h.space C K T0 (stpW h l) (XV h l).1 (XV h l).2 T M
theorem step_run(H:QG h BL)(hT:TgtP h.belts l)(S:Qd1 h BL l C K T0)(hC:EvC h.space C K T0) :
  XH h.space l (tgtI h l) (stpW h l)=some ((XV h l).1.to,(XV h l).1.mv,(XV h l).2,0,(XV h l).1.s.ws,(XV h l).1.s.fs)/\∃ T M,StpR h l C K T0 T M:=by
 ð⟨w1,w2⟩:=stpW_ok H S
 have:=run_c hC w1 w2
 rw [S.ci,S.ti] at this
 ~this
theorem stp_lens(R:StpR h l C K T0 T M):(XV h l).2.length=(QaS h.space h.roots l).length+(Qcm h.space h.sets l).length:=by
 rw [R.len]
 unfold stpW
 rw [We,Wb,Wb]
theorem stays(hC:EvC h.space C K T0)(R:StpR h l C K T0 T M){x:Itm}(hx:x∈K\/x=T0){k:Nat}(hk:k∈x.fr):∃ hl:k<(XV h l).1.s.fs.length,¬ (XV h l).1.s.fs[k].ow = -1:=by
 rcases hx with hx | rfl
 ·have ho:=R.inv.oth x (Wj _ hx)
  ~⟨ho.ch.lt k hk,ho.own k hk (ho.ch.lt k hk)⟩
 ·ð⟨m,m1,_⟩:=R.inv.fr
  have ho:=R.inv.inc.toIncC
  have hk':k∈T.fr:=by rw [m1];~Wf _ hk
  ~⟨ho.ch.lt k hk',ho.own k hk' (ho.ch.lt k hk')⟩
theorem out_kt(S:Qd1 h BL l C K T0){x:Itm}(hx:x∈BL.flatten)(hn:x∉C):x∈K\/x=T0:=by
 by_cases e:x=T0
 ·~.inr e
 ·~.inl ((S.kin x).2 ⟨hx,hn,e⟩)
theorem stpS_ok(H:QG h BL)(S:Qd1 h BL l C K T0)(hC:EvC h.space C K T0)(R:StpR h l C K T0 T M):ZL (Xx h l)/\SpW (Xx h l):=by
 have esh:(XV h l).1.s.sh=h.space.sh:=R.inv.sh
 have key:ZL ⟨(XV h l).1.s.sh,(Xx h l).ws,(XV h l).1.s.fs⟩:=by
  &sp_ws R.inv.ok (QbL _ _ _) λk hk h0 a h1 h2 e=>?_
  have hne:∀ q∈Qcm h.space h.sets l,q.toNat≠a:=λq hq ea=>by
   ð⟨q0,_,x,hx,hn,p,r,d,hp,j,j1,j2,e2⟩:=QaG H S hq
   have:=(Z2 H.sp.ok (H.sp.each x hx) hp Oo q0 e2).1
   unfold X7 at this
   rw [ea,show szS h.space=szS (XV h l).1.s from R.inv.z.symm,e] at this
   ð⟨_,k2⟩:=stays hC R (out_kt S hx hn) this
   ~k2 h0
  have:=Qei (Qcm h.space h.sets l) ((XV h l).2.drop (QaS h.space h.roots l).length) (XV h l).1.s.ws a hne
  ~VD ((Wa h2).symm.trans (this.trans (Wa h1)))
 &⟨by rw [esh] at key;~key,⟨λx hx=>?_,R.inv.w.2⟩⟩
 ~wrtL_all _ _ _ R.inv.w.1 (λv hv=>R.u v (Uj hv)) x hx
def sumI(s:Sp)(l:List Inc):Int:=l.foldl (λ(n:Int) x=>n+clN s x.words) 0
theorem sumI_eq(s:Sp)(C:List Itm):sumI s (C.map Itm.i)=sumF s C:=by
 have key:∀ (C:List Itm) (n:Int),(C.map Itm.i).foldl (λ(n:Int) x=>n+clN s x.words) n=n+sumF s C:=by
  intro C
  induction C with
  | nil=>intro n;simp [sumF]
  | cons x C ih=>intro n;rw [Vg,V2,ih];unfold sumF;rw [Vg,UK];omega
 have:=key C 0
 unfold sumI
 rw [this];omega
abbrev hp0:Hp:=Hp.mk (Cfg.mk ⟨#[]⟩ ([]:List Rul) 0) (Sp.mk 0 ([]:List Int) ([]:List Fe)) ([]:List (List Inc)) 0 ([]:List Qe) (Rts.mk ([]:List Bool) ([]:List Int)) 0 (Sts.mk 0 0 0 0 0 0 0 0 0) false
set_option maxHeartbeats 2000000 in
theorem do_c(H:QG h BL)(l:List Inc)(hl:l.length<=1000000)(hq:h.seq<=4294967295) :
  Qaa h l=some (open Classical in if TgtP h.belts l then (if sumI h.space l<=(Qk h.space.fs).length then (ZG h l,stpP h l,0) else (hp0,⟨0,0,0,0⟩,4)) else (hp0,⟨0,0,0,0⟩,1)):=by
 ð⟨z1,z2,z3,z4,z5⟩:=H.small
 have hok:=H.sp.ok
 &Gd.eq ?_
 unfold Qaa
 &.call (target_c H l hl) ?_
 by_cases hT:TgtP h.belts l
 ·rw [if_pos hT,if_pos hT]
  ð⟨C,K,T0,S⟩:=step_parts H hT
  &.pos rfl ?_
  &Gd.bind (P:=λb=>b=(sumI h.space l,sumW l)) ?_ λb hb=>?_
  ·&Gd.fold l (λ(t:Int×Int) i=>(t.1,t.2,i)) (λt x=>(t.1+clN h.space x.words,t.2+x.words)) (0,0) (λi t=>(0<=t.1/\t.1<=1099511627776*i)/\0<=t.2/\t.2<=16384*i) rfl (λ_ _=>rfl) Oo Os (λi hi t ht=>?_) (λht=>?_)
   ·ð⟨x,hx,e⟩:=hT.mem H (Wc hi)
    have hw:=(H.sp.each x hx).inc.wd
    rw [e] at hw
    have hc:=Qdt hok.shp.sh l[i].words
    &⟨by dsimp only;omega,?_⟩
    &.atN hi (.call (Qbz hok.shp.sh (by unfold I64;omega)) (.some ?_))
    dsimp only
    rw [Qd (n:=t.1+clN h.space l[i].words) Oo,Qd (n:=t.2+l[i].words) Oo]
   ·dsimp only
    unfold sumI sumW
    have:∀ (l:List Inc) (a b:Int),l.foldl (λ(t:Int×Int) x=>(t.1+clN h.space x.words,t.2+x.words)) (a,b)=(l.foldl (λ(n:Int) x=>n+clN h.space x.words) a,l.foldl (λ(n:Int) x=>n+x.words) b):=by
     intro l
     induction l with
     | nil=>intro a b;rfl
     | cons x l ih=>intro a b;rw [V2,V2,V2,ih]
    rw [this]
  subst hb
  &.call (free_ok h.space Oo) ?_
  rw [Wb]
  &.ite (λhf=>.some (by rw [if_neg (by dsimp only at hf;omega)])) λhf=>?_
  have hf:sumI h.space l<=(Qk h.space.fs).length:=by dsimp only at hf;omega
  rw [if_pos hf]
  have hneed:sumF h.space C<=(Qk h.space.fs).length:=by rw [<- sumI_eq,S.ci];~hf
  have hC:=step_ctx H hT S hq hneed hl
  ð⟨hrun,T,M,R⟩:=step_run H hT S hC
  ð⟨ok2,w2⟩:=stpS_ok H S hC R
  have hlens:=stp_lens R
  have hent:=ent_len H (l:=l)
  have hhdl:=hdl_len H (l:=l)
  &.call (Qb0 H) (.call (handles22_c hok H.rts l Oo) (.call (entries22_c hok H.sp.w H.sok H.sin l Oo) ?_))
  have hasc:=entL_asc h.space h.sets l
  have hout:∀ q∈Qcm h.space h.sets l,0<=q/\q<h.space.ws.length:=λq hq=>by
   ð⟨q0,_,x,hx,hn,p,r,d,hp,j,j1,j2,e2⟩:=QaG H S hq
   ~⟨q0,(Z2 hok (H.sp.each x hx) hp Oo q0 e2).2⟩
  &Gd.bind (P:=λb=>b=(QaS h.space h.roots l).map (QD h.roots)) ?_ λb hb=>?_
  ·&Gd.for ((QaS h.space h.roots l).map λi=>((i+1:Nat):Int)).length (λ(t:List Int) i=>(t,i)) (λi t=>t=((QaS h.space h.roots l).take i).map (QD h.roots)) [] rfl (λ_ _=>rfl) (by rw [Wb];omega) Os (λi hi t ht=>?_) (λt ht=>?_)
   ·rw [Wb] at hi
    have hlv:=(Qgc (Wc hi)).1
    have hlt:(QaS h.space h.roots l)[i]<h.roots.refs.length:=by
     have:=(Wq.1 (Xs.1 hlv)).1
     omega
    have htl:t.length<=1000000:=by rw [ht,Wb,Wi];omega
    &.atN (by rw [Wb];~hi) ?_
    rw [Va]
    have e1:w64 ((((QaS h.space h.roots l)[i]+1:Nat):Int)-1)=(((QaS h.space h.roots l)[i]:Nat):Int):=by rw [Qd Oo];omega
    rw [e1]
    &.atN hlt (.pos (X9 (l:=t) htl Oo) (.some (.inl ⟨_,rfl,?_⟩)))
    rw [QI hi,WH,ht]
    unfold QD
    rw [Ya,Wa hlt]
    rfl
   ·rw [Wb,WR] at ht
    rw [ht]
  subst hb
  &Gd.bind (P:=λb=>b=stpW h l) ?_ λb hb=>?_
  ·&Gd.for (Qcm h.space h.sets l).length (λ(t:List Int) i=>(t,i)) (λi t=>t=(QaS h.space h.roots l).map (QD h.roots)++((Qcm h.space h.sets l).take i).map (wAt h.space)) _ rfl (λ_ _=>rfl) Oo Os (λi hi t ht=>?_) (λt ht=>?_)
   ·have ho:=hout _ (Wc hi)
    have htl:t.length<=1000000:=by rw [ht,We,Wb,Wb,Wi];omega
    &.atN (l:=Qcm h.space h.sets l) hi (.at (i:=(Qcm h.space h.sets l)[i]) ho.1 Oo (.pos (X9 (l:=t) htl Oo) (.some (.inl ⟨_,rfl,?_⟩))))
    rw [QI hi,WH,<- WP,<- ht,Ya,QdL ho.1 Oo]
   ·rw [WR] at ht
    ~ht
  subst hb
  &.call hrun ?_
  have ewl:(XV h l).1.s.ws.length=h.space.ws.length:=R.inv.wl
  have efl:(XV h l).1.s.fs.length=h.space.fs.length:=R.inv.fl
  &.pos ewl (.pos efl (.pos rfl ?_))
  &Gd.bind (P:=λb=>b=stpR h l) ?_ λb hb=>?_
  ·&Gd.for ((QaS h.space h.roots l).map λi=>((i+1:Nat):Int)).length (λ(t:List Int) i=>(t,i)) (λi t=>t=wrtL h.roots.refs (((QaS h.space h.roots l).map λ(i:Nat)=>(i:Int)).take i) ((XV h l).2.take i)) h.roots.refs rfl (λ_ _=>rfl) (by rw [Wb];omega) (by simp [wrtL]) (λi hi t ht=>?_) (λt ht=>?_)
   ·rw [Wb] at hi
    have hlv:=(Qgc (Wc hi)).1
    have h32:(QaS h.space h.roots l)[i]<32:=by
     have:=(Wq.1 (Xs.1 hlv)).1
     omega
    have hlt:(QaS h.space h.roots l)[i]<t.length:=by
     rw [ht,QbL];omega
    &.atN (by rw [Wb];~hi) ?_
    rw [Va]
    have e1:w64 ((((QaS h.space h.roots l)[i]+1:Nat):Int)-1)=(((QaS h.space h.roots l)[i]:Nat):Int):=by rw [Qd Oo];omega
    rw [e1]
    &.atN (l:=(XV h l).2) Oo (.atN (l:=t) hlt (.some (.inl ⟨_,rfl,?_⟩)))
    rw [QI (l:=(QaS h.space h.roots l).map λ(i:Nat)=>(i:Int)) (by rw [Wb];~hi),QI (l:=(XV h l).2) Oo,QfG _ _ _ _ _ (by rw [Wi,Wi,Wb];omega),<- ht,Va]
   ·rw [Wb] at ht
    unfold stpR
    rw [ht,WF (by rw [Wb];omega)]
  subst hb
  &Gd.bind (P:=λb=>b=(Xx h l).ws) ?_ λb hb=>?_
  ·&Gd.for (Qcm h.space h.sets l).length (λ(t:List Int) i=>(t,i)) (λi t=>t=wrtL (XV h l).1.s.ws ((Qcm h.space h.sets l).take i) (((XV h l).2.drop (QaS h.space h.roots l).length).take i)) (XV h l).1.s.ws rfl (λ_ _=>rfl) Oo (by simp [wrtL]) (λi hi t ht=>?_) (λt ht=>?_)
   ·have ho:=hout _ (Wc hi)
    have htl:t.length=h.space.ws.length:=by rw [ht,QbL,ewl]
    &.atN hi ?_
    have e1:w64 ((((QaS h.space h.roots l).map λi=>((i+1:Nat):Int)).length:Int)+(i:Int))=(((QaS h.space h.roots l).length+i:Nat):Int):=by rw [Wb,Qd Oo];push_cast;rfl
    dsimp only
    rw [e1]
    &.atN (l:=(XV h l).2) Oo (.at ho.1 Oo (.some (.inl ⟨_,rfl,?_⟩)))
    rw [QI hi,QI (l:=(XV h l).2.drop (QaS h.space h.roots l).length) (by rw [Ww];omega),QfG _ _ _ _ _ (by rw [Wi,Wi,Ww];omega),<- ht,UQ]
   ·rw [WR,WF (by rw [Ww];omega)] at ht
    ~ht
  subst hb
  have hmv:∀ m∈(XV h l).1.mv,I64 m.to:=λm hm=>by
   rw [R.inv.mv] at hm
   ð⟨o,ho,rfl⟩:=Wk.1 hm
   have hin:=J4 M _ o ho
   have:=ev_adr R.inv (q:=o.2.1) (by have:=QcB R.inv;omega)
   unfold I64
   dsimp only
   omega
  have hmvl:=(ev_len hC.toEvB R.inv)
  have hren:=renew24_c ok2 w2 H.sok H.sin l Oo (ps:=Qcm h.space h.sets l) (λq hq=>by
   have:=hout q hq
   have e:(Xx h l).ws.length=h.space.ws.length:=(QbL _ _ _).trans ewl
   rw [e];~this) Oo hmv Oo
  &.call (a:=(renK (Xx h l) h.sets l (Qcm h.space h.sets l) (XV h l).1.mv,(Xx h l).ws,(Xx h l).fs)) (by
   show Zq (Xx h l) h.sets l (Qcm h.space h.sets l) (XV h l).1.mv=_
   rw [renew2_eq,hren];rfl) ?_
  &.pos rfl (.pos rfl ?_)
  &Gd.bind (P:=λb=>b=((Qbq (Xx h l) l).ws,(Qbq (Xx h l) l).fs,remA h.belts l)) ?_ λb hb=>?_
  ·~clear_loop ok2.shp H.bsz H.dist (λi hi=>by
    ð⟨x,hx,e⟩:=hT.mem H hi
    ~⟨i,by rw [H.flat,<- e];~W0 hx,rfl⟩) hT.nodup hl rfl
  subst hb
  have eto:(XV h l).1.to=T.i:=R.inv.to
  have hrB:BSz (remA h.belts l):=by
   rw [QbP]
   have hb:=H.bsz
   &⟨by rw [Wb];~hb.1,λp hp=>?_⟩
   ð⟨b,hb2,rfl⟩:=Wk.1 hp
   have:=hb.2 b hb2
   have:=W8 (λx:Inc=>!decide (x.seq∈l.map Inc.seq)) b
   omega
  have hbn:(remA h.belts l).length=h.config.rules.length:=by rw [QbP,Wb,H.bl,Wb,H.bn]
  have htb:=S.tb
  rw [S.ti] at htb
  have hsq:=R.inv.sq
  have htoB:(XV h l).1.to.belt=(tgtI h l).belt/\(XV h l).1.to.seq=(tgtI h l).seq:=by rw [eto,hsq.1,hsq.2.1,S.ti];~⟨rfl,rfl⟩
  &Gd.bind (P:=λb=>b=stpB h l) ?_ λb hb=>?_
  ·unfold stpB
   &.ite (λhw=>?_) λhw=>?_
   ·rw [if_pos hw]
    have hw0:T0∈BL.flatten:=S.tw.1 (by rw [S.ti];~hw)
    have hT0C:T0∉C:=by
     rcases S.tin with k | ⟨b,e⟩
     ·~k.2
     ·intro k
      have:=H.sq T0 (S.cin T0 k)
      rw [e] at this
      dsimp only at this
      omega
    have hbl2:(XV h l).1.to.belt.toNat<(remA h.belts l).length:=by rw [htoB.1,hbn];omega
    &.call (QfP hrB (by rw [htoB.1];~htb.1) hbl2 ?_ ?_) (.some rfl)
    ·have hd:=H.dist
     have key:∀ q∈remA h.belts l,q.Pairwise λx y=>x.seq≠y.seq:=λq hq=>by
      rw [QbP] at hq
      ð⟨p,hp,rfl⟩:=Wk.1 hq
      ~((List.pairwise_flatten.1 hd).1 p hp).filter _
     ~key _ (Wc hbl2)
    ·ð⟨b,hb,hxb,hbelt⟩:=H.belt_in hw0
     have hbb:(XV h l).1.to.belt.toNat=b:=by rw [htoB.1,<- S.ti,hbelt];rfl
     &⟨T0.i,?_,by rw [htoB.2,S.ti]⟩
     have hb3:b<(remA h.belts l).length:=by rw [<- hbb];~hbl2
     have e3:(remA h.belts l)[(XV h l).1.to.belt.toNat]'hbl2=(remA h.belts l)[b]'hb3:=by congr
     rw [e3]
     have e4:(remA h.belts l)[b]'hb3=(BL[b].map Itm.i).filter λx=>!decide (x.seq∈l.map Inc.seq):=by
      have:(remA h.belts l)[b]?=some ((BL[b].map Itm.i).filter λx=>!decide (x.seq∈l.map Inc.seq)):=by
       rw [QbP,Wh,H.bl_at hb];rfl
      rw [Wa hb3] at this
      injection this
     rw [e4,WI]
     &⟨W0 hxb,?_⟩
     simp only [Vy,decide_eq_false_iff_not]
     intro hm
     rw [<- S.ci,W3] at hm
     ð⟨y,hy,e⟩:=Wk.1 hm
     ~hT0C (H.uniq (S.cin y hy) hw0 e▸hy)
   ·rw [if_neg hw]
    &.ite (λhw2=>?_) λhw2=>.some (by rw [if_neg hw2])
    rw [if_pos hw2]
    &.call (add11_c hrB (by rw [htoB.1,hbn];~htb) λy hy=>?_) (.some rfl)
    have hym:y∈(remA h.belts l).flatten:=by
     unfold yngR at hy
     split at hy
     ·cases hy
     ·cases hb:(remA h.belts l)[(XV h l).1.to.belt.toNat]? with
      | none=>rw [hb] at hy;cases hy
      | some q =>
       rw [hb,WQ] at hy
       ~Vb.2 ⟨q,Wp hb,V6 hy⟩
    have hym2:y∈h.belts.flatten:=by
     rw [QbP] at hym
     ð⟨q,hq,hyq⟩:=Vb.1 hym
     ð⟨p,hp,rfl⟩:=Wk.1 hq
     ~Vb.2 ⟨p,hp,(WI.1 hyq).1⟩
    rw [H.flat] at hym2
    ð⟨x,hx,rfl⟩:=Wk.1 hym2
    have:=H.sq x hx
    rw [htoB.2]
    rcases S.tin with k | ⟨b,e⟩
    ·exfalso
     have:=S.tw.2 k.1
     rw [S.ti] at this
     ~hw this
    ·rw [<- S.ti,e];~this
  subst hb
  &.call (live20_c h.roots Oo) (.some ?_)
  rw [Wb]
  rfl
 ·rw [if_neg hT,if_neg hT]
  ~.neg Od (.some rfl)
end
theorem QaU:∀ (l:List Inc) (s:Sp),(∀ i∈l,0<=i.seq)->(∀ k:Nat,(Qbq s l).fs[k]?=(s.fs[k]?).map λf=>if f.ow∈l.map Inc.seq then feF else f)/\(∀ a:Nat,(Qbq s l).ws[a]?=(s.ws[a]?).map λw=>if isC s.fs l (a/szS s)=true then 0 else w)
 | [],s,_=>by
  &⟨λk=>?_,λa=>?_⟩
  ·show s.fs[k]?=_
   cases s.fs[k]? <;> simp
  ·show s.ws[a]?=_
   have:isC s.fs [] (a/szS s)=false:=by
    unfold isC
    cases s.fs[a/szS s]? <;> simp
   rw [this]
   cases s.ws[a]? <;> simp
 | x :: l,s,h=>by
  have hx:=h x (WA ..)
  ð⟨h1,h2⟩:=QaU l ⟨s.sh,Qcj (szS s) s.fs x.seq s.ws,QaT s.fs x.seq⟩ λi hi=>h i (Wm _ hi)
  have hl:¬ (-1:Int)∈l.map Inc.seq:=λhm=>by
   ð⟨i,hi,e⟩:=Wk.1 hm
   have:=h i (Wm _ hi)
   omega
  have hf1:∀ k:Nat,(QaT s.fs x.seq)[k]?=(s.fs[k]?).map λf=>if f.ow=x.seq then feF else f:=λk=>by unfold QaT;rw [Wh]
  &⟨λk=>?_,λa=>?_⟩
  ·show (Qbq ⟨s.sh,Qcj (szS s) s.fs x.seq s.ws,QaT s.fs x.seq⟩ l).fs[k]?=_
   rw [h1 k]
   dsimp only
   rw [hf1 k]
   cases s.fs[k]? with
   | none=>rfl
   | some f =>
    simp only [Wu,Vg,Wt]
    by_cases e:f.ow=x.seq
    ·simp [e,hl]
    ·simp [e]
  ·show (Qbq ⟨s.sh,Qcj (szS s) s.fs x.seq s.ws,QaT s.fs x.seq⟩ l).ws[a]?=_
   rw [h2 a]
   dsimp only
   rw [show szS ⟨s.sh,Qcj (szS s) s.fs x.seq s.ws,QaT s.fs x.seq⟩=szS s from rfl]
   unfold Qcj
   rw [List.getElem?_mapIdx]
   cases s.ws[a]? with
   | none=>rfl
   | some w =>
    simp only [Wu]
    congr 1
    unfold isC isOw
    rw [hf1]
    cases s.fs[a/szS s]? with
    | none=>rfl
    | some f =>
     simp only [Wu,Vg,Wt]
     by_cases e:f.ow=x.seq
     ·simp [e,hl]
     ·simp [e]
theorem QcC(l:List Inc)(s:Sp)(h:∀ i∈l,0<=i.seq):(Qbq s l).fs.length=s.fs.length/\(Qbq s l).ws.length=s.ws.length:=by
 ð⟨h1,h2⟩:=QaU l s h
 constructor
 ·apply YV
  ·rw [<- Ut,h1,Wg (Wl _)];rfl
  ·rw [<- Ut]
   have:=h1 (Qbq s l).fs.length
   rw [Wg (Wl _)] at this
   cases hk:s.fs[(Qbq s l).fs.length]? with
   | none=>rfl
   | some f=>rw [hk] at this;cases this
 ·apply YV
  ·rw [<- Ut,h2,Wg (Wl _)];rfl
  ·rw [<- Ut]
   have:=h2 (Qbq s l).ws.length
   rw [Wg (Wl _)] at this
   cases hk:s.ws[(Qbq s l).ws.length]? with
   | none=>rfl
   | some f=>rw [hk] at this;cases this
section
variable{s:Sp}{l:List Inc}
theorem Qb1(h:∀ i∈l,0<=i.seq){k:Nat}(hk:k<s.fs.length)(hc:¬ isC s.fs l k=true):∃ hk':k<(Qbq s l).fs.length,(Qbq s l).fs[k]=s.fs[k]:=by
 ð⟨h1,_⟩:=QaU l s h
 have hk':k<(Qbq s l).fs.length:=by rw [(QcC l s h).1];~hk
 &⟨hk',?_⟩
 have:=h1 k
 rw [Wa hk',Wa hk,Wu] at this
 rw [QeL hk,decide_eq_true_iff] at hc
 rw [if_neg hc] at this
 injection this
theorem QaJ(h:∀ i∈l,0<=i.seq){k:Nat}(hc:isC s.fs l k=true):∃ hk':k<(Qbq s l).fs.length,(Qbq s l).fs[k]=feF:=by
 ð⟨h1,_⟩:=QaU l s h
 ð⟨hk,hm⟩:=Qf7.1 hc
 have hk':k<(Qbq s l).fs.length:=by rw [(QcC l s h).1];~hk
 &⟨hk',?_⟩
 have:=h1 k
 rw [Wa hk',Wa hk,Wu,if_pos hm] at this
 injection this
theorem clrA_word(h:∀ i∈l,0<=i.seq){a:Nat}(hc:¬ isC s.fs l (a/szS s)=true):(Qbq s l).ws[a]?=s.ws[a]?:=by
 rw [(QaU l s h).2 a]
 cases s.ws[a]? with
 | none=>rfl
 | some w=>rw [Wu,if_neg hc]
theorem clrA_z(l:List Inc)(s:Sp):szS (Qbq s l)=szS s:=by unfold szS;rw [clrA_sh]
theorem clrA_ok(hs:ZL s)(h:∀ i∈l,0<=i.seq):ZL (Qbq s l):=by
 ð⟨L1,L2⟩:=QcC l s h
 have hz:=clrA_z l s
 have hnx:=Ze hs.fm
 have hnext:∀ k (hk:k<s.fs.length),¬ isC s.fs l k=true->∀ j (hj:j<s.fs.length),s.fs[k].nx=(j:Int)->¬ isC s.fs l j=true:=λk hk hc j hj e=>by
  rcases hs.fm k hk with f | f
  ·have:=f.2.2.1;omega
  ·ð⟨h1,_⟩:=f.2.2.2.2 j hj e
   rw [QeL hj,h1,<- QeL hk]
   ~hc
 have hnf:∀ f:Int,(f<0\/¬ isC s.fs l f.toNat=true)->nxF (Qbq s l).fs f=nxF s.fs f/\(nxF s.fs f<0\/¬ isC s.fs l (nxF s.fs f).toNat=true):=λf hf=>by
  by_cases h0:0<=f/\f.toNat<s.fs.length
  ·have hc:¬ isC s.fs l f.toNat=true:=by
    rcases hf with hf | hf
    ·omega
    ·~hf
   ð⟨k1,k2⟩:=Qb1 h h0.2 hc
   rw [nxF_z h0.1 k1,nxF_z h0.1 h0.2,k2]
   &⟨rfl,?_⟩
   rcases UZ s.fs[f.toNat].nx 0 with q | q
   ·~.inl q
   ·right
    have:=hnx f.toNat h0.2
    ~hnext _ h0.2 hc s.fs[f.toNat].nx.toNat Oo Oo
  ·have e1:nxF s.fs f = -1:=by unfold nxF;rw [dif_neg h0]
   have e2:nxF (Qbq s l).fs f = -1:=by unfold nxF;rw [dif_neg (by rw [L1];~h0)]
   rw [e1,e2]
   ~⟨rfl,.inl Oo⟩
 have hit:∀ (n:Nat) (f:Int),(f<0\/¬ isC s.fs l f.toNat=true)->itF (Qbq s l).fs n f=itF s.fs n f:=by
  intro n
  induction n with
  | zero=>intro f _;rfl
  | succ n ih =>
   intro f hf
   ð⟨e,k⟩:=hnf f hf
   show itF (Qbq s l).fs n (nxF (Qbq s l).fs f)=itF s.fs n (nxF s.fs f)
   rw [e]
   ~ih _ k
 &⟨⟨by rw [clrA_sh];~hs.shp.sh,by rw [L1];~hs.shp.lo,by rw [L1];~hs.shp.hi,by rw [L1,L2,hz];~hs.shp.wl⟩,λk hk=>?_,λi j hi hj hij hjn e=>?_,λi hi=>?_⟩
 ·rw [L1] at hk
  by_cases hc:isC s.fs l k=true
  ·ð⟨k1,k2⟩:=QaJ h hc
   left
   rw [k2]
   &⟨rfl,rfl,rfl,λa ha h1 h2=>?_⟩
   rw [hz] at h1 h2
   have hd:a/szS s=k:=U3 h1 h2
   have:=(QaU l s h).2 a
   rw [hd,Wa ha,Wa (by rw [<- L2];~ha),Wu,if_pos hc] at this
   injection this
  ·ð⟨k1,k2⟩:=Qb1 h hk hc
   rw [k2]
   rcases hs.fm k hk with f | f
   ·left
    &⟨f.1,f.2.1,f.2.2.1,λa ha h1 h2=>?_⟩
    rw [hz] at h1 h2
    have hd:a/szS s=k:=U3 h1 h2
    have hla:a<s.ws.length:=by rw [<- L2];~ha
    have:=clrA_word (s:=s) h (a:=a) (by rw [hd];~hc)
    rw [Wa ha,Wa hla] at this
    injection this with this
    rw [this]
    ~f.2.2.2 a hla h1 h2
   ·right
    &⟨f.1,f.2.1,by rw [L1];~f.2.2.1,f.2.2.2.1,λj hj e=>?_⟩
    rw [L1] at hj
    ð⟨j1,j2⟩:=Qb1 h hj (hnext k hk hc j hj e)
    rw [j2]
    ~f.2.2.2.2 j hj e
 ·have hi':=hi
  have hj':=hj
  rw [L1] at hi' hj' hjn
  by_cases ci:isC s.fs l i=true
  ·ð⟨_,k2⟩:=QaJ h ci
   rw [k2]
  ·ð⟨_,k2⟩:=Qb1 h hi' ci
   by_cases cj:isC s.fs l j=true
   ·ð⟨_,k3⟩:=QaJ h cj
    rw [e,k3]
   ·ð⟨_,k3⟩:=Qb1 h hj' cj
    rw [k2] at e ⊢
    rw [k3] at e
    ~hs.uq i j hi' hj' hij hjn e
 ·rw [L1] at hi ⊢
  by_cases ci:isC s.fs l i=true
  ·ð⟨k1,k2⟩:=QaJ h ci
   show itF (Qbq s l).fs s.fs.length (nxF (Qbq s l).fs (i:Int)) = -1
   rw [nxF_at k1,k2]
   ~Xz _ rfl
  ·rw [hit _ _ (.inr (by simpa using ci))]
   ~hs.ends i hi
theorem clrA_w(hW:SpW s)(h:∀ i∈l,0<=i.seq):SpW (Qbq s l):=by
 ð⟨h1,h2⟩:=QaU l s h
 &⟨λx hx=>?_,λf hf=>?_⟩
 ·ð⟨a,ha⟩:=Vd.1 hx
  rw [h2 a] at ha
  cases hw:s.ws[a]? with
  | none=>rw [hw] at ha;cases ha
  | some w =>
   rw [hw,Wu] at ha
   injection ha with ha
   rw [<- ha]
   split
   ·unfold U64;omega
   ·~hW.1 w (Wp hw)
 ·ð⟨a,ha⟩:=Vd.1 hf
  rw [h1 a] at ha
  cases hw:s.fs[a]? with
  | none=>rw [hw] at ha;cases ha
  | some w =>
   rw [hw,Wu] at ha
   injection ha with ha
   rw [<- ha]
   split
   ·unfold I64;dsimp only;omega
   ·~hW.2 w (Wp hw)
theorem clrA_inc(h:∀ i∈l,0<=i.seq){i:Inc}{fr:List Nat}(hi:IncC s.fs i fr)(hn:i.seq∉l.map Inc.seq):IncC (Qbq s l).fs i fr:=by
 ð⟨L1,L2⟩:=QcC l s h
 &hi.keep L1 (D:=λk=>isC s.fs l k=true) (λk hk _ hc=>(Qb1 h hk hc).2) λk hk hc=>?_
 ð⟨k1,k2⟩:=QaJ h hc
 &⟨λhm=>?_,by rw [k2];have:=hi.sq;show (-1:Int)≠i.seq;omega⟩
 ð⟨hk2,hm2⟩:=Qf7.1 hc
 rw [(hi.ow k hk2).2 hm] at hm2
 ~hn hm2
end
structure StX(h:Hp)(BL:List (List Itm))(l:List Inc)(C K:List Itm)(T0 T:Itm)(M:List (Nat×Nat×Nat)):Prop where
 H:QG h BL
 tgt:TgtP h.belts l
 S:Qd1 h BL l C K T0
 ctx:EvC h.space C K T0
 R:StpR h l C K T0 T M
 q:h.seq<=4294967294
theorem wAt_opt{s t:Sp}{a b:Nat}(h:s.ws[a]?=t.ws[b]?)(hb:b<t.ws.length):wAt s (a:Int)=wAt t (b:Int):=by
 rw [Wa hb] at h
 rw [Jk h,Jk (Wa hb)]
theorem obj_inj{h:Hp}{BL:List (List Itm)}(H:QG h BL){x y:Itm}(hx:x∈BL.flatten)(hy:y∈BL.flatten){p r d k p' r' d' k':Nat}(hp:(p,r,d)∈obs 0 x.os)(hp':(p',r',d')∈obs 0 y.os)(hk:k<=r+d)(hk':k'<=r'+d')
  (e:adr (szS h.space) x.fr (p+k)=adr (szS h.space) y.fr (p'+k')):x=y/\p=p'/\r=r'/\d=d'/\k=k':=by
 have hz:=(Jm H.sp.ok.shp.sh).2.2.1
 have hX:=H.sp.each x hx
 have hY:=H.sp.each y hy
 have b1:=Itm.posOk H.sp.ok hX hp
 have b2:=Itm.posOk H.sp.ok hY hp'
 have exy:x=y:=by
  &H.uniq hx hy (Classical.byContradiction λhne=>?_)
  ~QeQ Oo (hX.inc.toIncC.disj hY.inc.toIncC hne) (p:=p+k) (q:=p'+k') Oo Oo e
 subst exy
 have:=Qbr Oo hX.inc.nd (p:=p+k) (q:=p'+k') Oo Oo e
 rcases obs_sep hp hp' with q | q | q
 ·injection q with q1 q2
  injection q2 with q2 q3
  ~⟨rfl,q1,q2,q3,Oo⟩
 ·dsimp only at q;omega
 ·dsimp only at q;omega
section
variable{h:Hp}{BL:List (List Itm)}{l:List Inc}{C K:List Itm}{T0 T:Itm}{M:List (Nat×Nat×Nat)}
theorem StX.ln(X:StX h BL l C K T0 T M):∀ i∈l,0<=i.seq:=λi hi=>by
 ð⟨x,hx,e⟩:=X.tgt.mem X.H hi
 rw [<- e]
 ~(X.H.sp.each x hx).inc.sq.1
theorem StX.z(X:StX h BL l C K T0 T M):8<=szS h.space:=X.ctx.toEvB.z0
theorem StX.z2(X:StX h BL l C K T0 T M):szS (Xx h l)=szS h.space:=rfl
theorem StX.z3(X:StX h BL l C K T0 T M):szS (ZG h l).space=szS h.space:=rfl
theorem StX.len2(X:StX h BL l C K T0 T M):(Xx h l).ws.length=h.space.ws.length/\(Xx h l).fs.length=h.space.fs.length:=⟨(QbL _ _ _).trans X.R.inv.wl,X.R.inv.fl⟩
theorem StX.len3(X:StX h BL l C K T0 T M):(ZG h l).space.ws.length=h.space.ws.length/\(ZG h l).space.fs.length=h.space.fs.length:=by
 rw [QfL]
 ð⟨a,b⟩:=QcC l (Xx h l) X.ln
 ~⟨b.trans X.len2.1,a.trans X.len2.2⟩
theorem StX.ok2(X:StX h BL l C K T0 T M):ZL (Xx h l)/\SpW (Xx h l):=stpS_ok X.H X.S X.ctx X.R
theorem StX.ok3(X:StX h BL l C K T0 T M):ZL (ZG h l).space/\SpW (ZG h l).space:=by
 rw [QfL]
 ~⟨clrA_ok X.ok2.1 X.ln,clrA_w X.ok2.2 X.ln⟩
theorem StX.isC2(X:StX h BL l C K T0 T M){k:Nat}:isC (Xx h l).fs l k=true<->∃ c∈C,k∈c.fr:=by
 have:=Qf8 (fs:=(Xx h l).fs) (C:=C) (k:=k) λx hx=>X.R.inv.oth x (Wf _ hx)
 rw [X.S.ci] at this
 ~this
theorem StX.kb(X:StX h BL l C K T0 T M){x:Itm}(hx:x∈K):x∈BL.flatten/\x∉C/\x≠T0:=(X.S.kin x).1 hx
theorem StX.noC(X:StX h BL l C K T0 T M){x:Itm}(hx:x∈K\/x=T){k:Nat}(hk:k∈x.fr):¬ isC (Xx h l).fs l k=true:=by
 rw [X.isC2]
 rintro ⟨c,hc,hkc⟩
 have hci:=X.R.inv.oth c (Wf _ hc)
 rcases hx with hx | rfl
 ·~hci.disj (X.R.inv.oth x (Wj _ hx)) (X.ctx.sqK c hc x hx) k hkc hk
 ·~hci.disj X.R.inv.inc.toIncC (by rw [X.R.inv.sq.1];~X.ctx.sqT c (Wf _ hc)) k hkc hk
theorem StX.tfr(X:StX h BL l C K T0 T M):∃ m,T.fr=T0.fr++m:=by
 ð⟨m,m1,_⟩:=X.R.inv.fr
 ~⟨_,m1⟩
theorem StX.t0room(X:StX h BL l C K T0 T M):T0.i.words.toNat<=T0.fr.length*szS h.space:=X.ctx.t0.inc.room X.ctx.ok
theorem StX.tadr(X:StX h BL l C K T0 T M){p:Nat}(hp:p<T0.i.words.toNat):adr (szS h.space) T.fr p=adr (szS h.space) T0.fr p:=by
 ð⟨m,e⟩:=X.tfr
 have:=X.t0room
 have:=X.z
 rw [e]
 ~Xg Oo Oo
theorem StX.w3(X:StX h BL l C K T0 T M){x:Itm}(hx:x∈K\/x=T){p:Nat}(hp:p<x.fr.length*szS h.space):(ZG h l).space.ws[adr (szS h.space) x.fr p]?=(Xx h l).ws[adr (szS h.space) x.fr p]?:=by
 rw [QfL]
 have hz:=X.z
 &clrA_word X.ln ?_
 rw [X.z2]
 ~X.noC hx (adr_fr Oo hp)
theorem StX.w2(X:StX h BL l C K T0 T M){a:Nat}(hn:∀ q∈Qcm h.space h.sets l,q.toNat≠a):(Xx h l).ws[a]?=(XV h l).1.s.ws[a]?:=Qei _ _ _ _ hn
theorem StX.old(X:StX h BL l C K T0 T M){x:Itm}(hx:x∈K\/x=T0){p r d k:Nat}(hp:(p,r,d)∈obs 0 x.os)(hk:k<=r+d) :
  x∈BL.flatten/\(XV h l).1.s.ws[adr (szS h.space) x.fr (p+k)]?=h.space.ws[adr (szS h.space) x.fr (p+k)]?/\(ZG h l).space.ws[adr (szS h.space) x.fr (p+k)]?=(Xx h l).ws[adr (szS h.space) x.fr (p+k)]?/\adr (szS h.space) x.fr (p+k)<h.space.ws.length:=by
 rcases hx with hx | rfl
 ·have hX:=X.ctx.ks x hx
  have b:=Itm.posOk X.ctx.ok hX hp
  &⟨(X.kb hx).1,X.R.inv.kw x hx _ Oo,X.w3 (.inl hx) Oo,Jo X.ctx.ok.shp hX.inc.ch.lt Oo⟩
 ·have hX:=X.ctx.t0
  have b:=Itm.posOk X.ctx.ok hX hp
  have hin:=hX.lay.get _ hp
  dsimp only at hin
  have hT0:x∈BL.flatten:=by
   rcases X.S.tin with k | ⟨b,e⟩
   ·~k.1
   ·rw [e] at hp;cases hp
  ð⟨m,e⟩:=X.tfr
  have ea:adr (szS h.space) T.fr (p+k)=adr (szS h.space) x.fr (p+k):=X.tadr Oo
  &⟨hT0,?_,?_,Jo X.ctx.ok.shp hX.inc.ch.lt Oo⟩
  ·have:=X.R.inv.tw (p+k) Oo
   rwa [ea] at this
  ·have:=X.w3 (x:=T) (.inr rfl) (p:=p+k) (by rw [e,We,Vv];omega)
   rwa [ea] at this
theorem StX.notC(X:StX h BL l C K T0 T M){x:Itm}(hx:x∈K\/x=T0):x∉C:=by
 rcases hx with hx | rfl
 ·~(X.kb hx).2.1
 ·rcases X.S.tin with k | ⟨b,e⟩
  ·~k.2
  ·intro hc
   have:=X.H.sq x (X.S.cin x hc)
   rw [e] at this
   dsimp only at this
   omega
theorem StX.w_old(X:StX h BL l C K T0 T M){x:Itm}(hx:x∈K\/x=T0){p r d k:Nat}(hp:(p,r,d)∈obs 0 x.os)(hk:k<=r+d)(hk2:k=0\/r<k) :
  (ZG h l).space.ws[adr (szS h.space) x.fr (p+k)]?=h.space.ws[adr (szS h.space) x.fr (p+k)]?:=by
 ð⟨hxb,e1,e2,e3⟩:=X.old hx hp hk
 rw [e2,X.w2 λq hq e=>?_,e1]
 ð⟨q0,_,y,hy,hn,p',r',d',hp',k',k1,k2,eq⟩:=QaG X.H X.S hq
 rw [eq] at e
 ð⟨_,_,g1,g2,g3⟩:=obj_inj X.H hy hxb hp' hp Oo hk e
 omega
theorem ent_idx{l:List Int}(h:l.Pairwise (· < ·))(h0:∀ q∈l,0<=q):l.Pairwise λa b=>a.toNat≠b.toNat:=by
 &Wy.2 λi j hi hj hij e=>?_
 have h1:=Wy.1 h i j hi hj hij
 have h2:=h0 _ (Wc hi)
 have h3:=h0 _ (Wc hj)
 omega
theorem StX.r_old(X:StX h BL l C K T0 T M){x:Itm}(hx:x∈K\/x=T0){p r d k:Nat}(hp:(p,r,d)∈obs 0 x.os)(h1:1<=k)(h2:k<=r) :
  ImgP h.space C (XV h l).1.mv (wAt h.space ((adr (szS h.space) x.fr (p+k):Nat):Int)) (wAt (ZG h l).space ((adr (szS h.space) x.fr (p+k):Nat):Int)) /\
   (((adr (szS h.space) x.fr (p+k):Nat):Int)∉Qcm h.space h.sets l->wAt (ZG h l).space ((adr (szS h.space) x.fr (p+k):Nat):Int)=wAt h.space ((adr (szS h.space) x.fr (p+k):Nat):Int)/\¬ QdJ h.space l (wAt h.space ((adr (szS h.space) x.fr (p+k):Nat):Int))):=by
 ð⟨hxb,e1,e2,e3⟩:=X.old hx hp (k:=k) Oo
 by_cases hm:((adr (szS h.space) x.fr (p+k):Nat):Int)∈Qcm h.space h.sets l
 ·&⟨?_,λhn=>absurd hm hn⟩
  ð⟨j,hj⟩:=Vd.1 hm
  ð⟨hjl,hje⟩:=Wq.1 hj
  have hlens:=stp_lens X.R
  have h0:∀ q∈Qcm h.space h.sets l,0<=q:=λq hq=>(QaG X.H X.S hq).1
  have hv:((XV h l).2.drop (QaS h.space h.roots l).length)[j]?=some ((XV h l).2[(QaS h.space h.roots l).length+j]' Oo):=by
   rw [W2,Wa Oo]
  have hwr:=wrtL_at (Qcm h.space h.sets l) ((XV h l).2.drop (QaS h.space h.roots l).length) (XV h l).1.s.ws (ent_idx (entL_asc _ _ _) h0) (by rw [Ww];omega) (λq hq=>by
   ð⟨q0,_,y,hy,hn,p',r',d',hp',k',k1,k2,eq⟩:=QaG X.H X.S hq
   have:=(Z2 X.H.sp.ok (X.H.sp.each y hy) hp' (k:=k') Oo q0 eq).2
   rw [X.R.inv.wl];omega) j _ _ hj hv
  rw [Wd] at hwr
  have e4:(ZG h l).space.ws[adr (szS h.space) x.fr (p+k)]?=some ((XV h l).2[(QaS h.space h.roots l).length+j]' Oo):=e2.trans hwr
  rw [Jk e4]
  &X.R.img ((QaS h.space h.roots l).length+j) _ _ ?_ (Wa Oo)
  unfold stpW
  rw [WO (by rw [Wb];omega),Wb,UC,Wh,hj]
  rfl
 ·have e4:(ZG h l).space.ws[adr (szS h.space) x.fr (p+k)]?=h.space.ws[adr (szS h.space) x.fr (p+k)]?:=by
   rw [e2,X.w2 λq hq e=>?_,e1]
   have:=(QaG X.H X.S hq).1
   ~hm (by rw [<- e,show ((q.toNat:Nat):Int)=q by omega];~hq)
  have e5:=wAt_opt e4 e3
  have hnw:¬ QdJ h.space l (wAt h.space ((adr (szS h.space) x.fr (p+k):Nat):Int)):=λhw=>hm (slot_in X.H X.tgt X.S hxb (X.notC hx) hp h1 h2 hw)
  rw [e5]
  ~⟨.inl ⟨by rw [X.S.ci];~hnw,rfl⟩,λ_=>⟨rfl,hnw⟩⟩
theorem StX.new(X:StX h BL l C K T0 T M){o:Nat×Nat×Nat×Nat}(ho:o∈nob T0.i.words.toNat M){k:Nat}(hk:k<=o.2.2.1+o.2.2.2) :
  (ZG h l).space.ws[adr (szS h.space) T.fr (o.2.1+k)]?=(XV h l).1.s.ws[adr (szS h.space) T.fr (o.2.1+k)]?/\((adr (szS h.space) T.fr (o.2.1+k):Nat):Int)∉Qcm h.space h.sets l/\o.2.1+k<T.fr.length*szS h.space:=by
 have hz:=X.z
 have hroom:=QcB X.R.inv
 have hin:=J4 M _ o ho
 have hne:∀ q∈Qcm h.space h.sets l,q.toNat≠adr (szS h.space) T.fr (o.2.1+k):=λq hq e=>by
  ð⟨q0,_,y,hy,hn,p',r',d',hp',k',k1,k2,eq⟩:=QaG X.H X.S hq
  rw [eq] at e
  have b:=Itm.posOk X.H.sp.ok (X.H.sp.each y hy) hp'
  rcases out_kt X.S hy hn with hK | rfl
  ·~QeQ Oo ((X.R.inv.oth y (Wj _ hK)).disj X.R.inv.inc.toIncC (by rw [X.R.inv.sq.1];~X.ctx.sqT y (Wj _ hK))) (p:=p'+k') (q:=o.2.1+k) Oo Oo e
  ·have hg:=(X.H.sp.each y hy).lay.get _ hp'
   dsimp only at hg
   rw [<- X.tadr (p:=p'+k') Oo] at e
   have:=Qbr Oo X.R.inv.inc.nd (p:=p'+k') (q:=o.2.1+k) Oo Oo e
   omega
 &⟨(X.w3 (.inr rfl) Oo).trans (X.w2 hne),λhm=>hne _ hm (by rw [Wd]),Oo⟩
theorem StX.w_new(X:StX h BL l C K T0 T M){o:Nat×Nat×Nat×Nat}(ho:o∈nob T0.i.words.toNat M) :
  (ZG h l).space.ws[adr (szS h.space) T.fr o.2.1]?=some (hdW o.2.2.1 o.2.2.2)/\∀ k,o.2.2.1<k->k<=o.2.2.1+o.2.2.2->(ZG h l).space.ws[adr (szS h.space) T.fr (o.2.1+k)]?=h.space.ws[srcA h.space o.1 k]?:=by
 &⟨?_,λk h1 h2=>(X.new ho h2).1.trans (X.R.inv.dat o ho k h1 h2)⟩
 have:=(X.new ho (k:=0) Oo).1
 rw [VW] at this
 ~this.trans (X.R.inv.hd o ho)
theorem StX.r_new(X:StX h BL l C K T0 T M){o:Nat×Nat×Nat×Nat}(ho:o∈nob T0.i.words.toNat M){k:Nat}(h1:1<=k)(h2:k<=o.2.2.1) :
  ImgP h.space C (XV h l).1.mv (wAt h.space ((srcA h.space o.1 k:Nat):Int)) (wAt (ZG h l).space ((adr (szS h.space) T.fr (o.2.1+k):Nat):Int)):=by
 ð⟨j,hj⟩:=Vd.1 ho
 have hjl:j<M.length:=by have:=(Wq.1 hj).1;rwa [Qeq] at this
 have:=X.R.inv.ref j o hj k h1 h2
 rw [if_pos (.inl hjl)] at this
 ð⟨w,v,e1,e2,e3⟩:=this
 have e4:=(X.new ho (k:=k) Oo).1.trans e2
 rw [Jk e1,Jk e4]
 ~e3
end
theorem Lay.heads{z:Nat}{ws ws':List Int}{fr fr':List Nat}:∀ {l:List (Nat×Nat)} {p q:Nat},Lay z ws fr p l q->(∀ o∈obs p l,ws'[adr z fr' o.1]?=some (hdW o.2.1 o.2.2))->Lay z ws' fr' p l q
 | [],p,q,h,_=>h
 | (r,d) :: l,p,q,h,k=>⟨h.1,h.2.1,k (p,r,d) (WA ..),h.2.2.2.heads λo ho=>k o (Wm _ ho)⟩
theorem Lay.append{z:Nat}{ws:List Int}{fr:List Nat}:∀ {l m:List (Nat×Nat)} {p q r:Nat},Lay z ws fr p l q->Lay z ws fr q m r->Lay z ws fr p (l++m) r
 | [],m,p,q,r,h,k=>by cases h;~k
 | (a,b) :: l,m,p,q,r,h,k=>⟨h.1,h.2.1,h.2.2.1,h.2.2.2.append k⟩
theorem lay_nob{z:Nat}{ws:List Int}{fr:List Nat}:∀ {M:List (Nat×Nat×Nat)} {p:Nat},(∀ o∈nob p M,o.2.2.1<=15/\o.2.2.2<=32/\ws[adr z fr o.2.1]?=some (hdW o.2.2.1 o.2.2.2))->Lay z ws fr p (M.map (·.2)) (p+szM M)
 | [],p,_=>rfl
 | (a,r,d) :: M,p,h=>by
  have h0:=h (a,p,r,d) (WA ..)
  &⟨h0.1,h0.2.1,h0.2.2,?_⟩
  have:=lay_nob (M:=M) (p:=p+1+r+d) (ws:=ws) (fr:=fr) (z:=z) λo ho=>h o (Wm _ ho)
  rw [show p+szM ((a,r,d) :: M)=p+1+r+d+szM M from by show p+(1+r+d+szM M)=_;omega]
  ~this
theorem Qfx{α:Type}(t:α):∀ (B:List (List α)) (n:Nat),n<B.length->(B.modify n λq=>q++[t]).flatten.Perm (B.flatten++[t])
 | [],n,h=>by simp at h
 | q :: B,0,_=>by
  show ((q++[t]) :: B).flatten.Perm _
  rw [Vi,Vi,WP,WP]
  ~Y2 _ List.perm_append_comm
 | q :: B,n+1,h=>by
  show (q :: B.modify n λq=>q++[t]).flatten.Perm _
  rw [Vi,Vi,WP]
  ~Y2 _ (Qfx t B n (by simpa using h))
noncomputable def X8(BL:List (List Itm))(C:List Itm):List (List Itm):=BL.map λq=>q.filter λx=>bP (x∉C)
noncomputable def Qdc(T0 T x:Itm):Itm:=open Classical in if x=T0 then T else x
noncomputable def Zt(BL:List (List Itm))(C:List Itm)(T0 T:Itm):List (List Itm):=open Classical in
 if T0∈BL.flatten then (X8 BL C).map λq=>q.map (Qdc T0 T)
 else if 0<T.i.words then (X8 BL C).modify T0.i.belt.toNat λq=>q++[T] else X8 BL C
theorem Qf2{BL:List (List Itm)}{C:List Itm}{x:Itm}:x∈(X8 BL C).flatten<->x∈BL.flatten/\x∉C:=by
 unfold X8
 rw [<- Yu,WI,QE]
theorem JH(BL:List (List Itm))(C:List Itm):(X8 BL C).length=BL.length:=by unfold X8;rw [Wb]
section
variable{h:Hp}{BL:List (List Itm)}{l:List Inc}{C K:List Itm}{T0 T:Itm}{M:List (Nat×Nat×Nat)}
theorem StX.tq(X:StX h BL l C K T0 T M):T.i.seq=T0.i.seq/\T.i.belt=T0.i.belt/\T.i.words=((T0.i.words.toNat+szM M:Nat):Int)/\0<=T0.i.words:=⟨X.R.inv.sq.1,X.R.inv.sq.2.1,X.R.inv.sq.2.2,X.ctx.t0.inc.wd.1⟩
theorem StX.b0(X:StX h BL l C K T0 T M):T0.i.belt.toNat<BL.length:=by
 have:=X.S.tb
 have:=X.H.bn
 omega
theorem StX.mem(X:StX h BL l C K T0 T M){x:Itm}:x∈(Zt BL C T0 T).flatten<->x∈K\/(x=T/\0<T.i.words):=by
 have ht:=X.tq
 unfold Zt
 by_cases h0:T0∈BL.flatten
 ·rw [if_pos h0,<- Yo,Wk]
  have hw:=X.S.tw.2 h0
  have hn:T0∉C:=X.notC (.inr rfl)
  constructor
  ·rintro ⟨y,hy,rfl⟩
   have:=Qf2.1 hy
   unfold Qdc
   by_cases e:y=T0
   ·rw [if_pos e];~.inr ⟨rfl,Oo⟩
   ·rw [if_neg e];~.inl ((X.S.kin y).2 ⟨this.1,this.2,e⟩)
  ·rintro (hk | ⟨rfl,_⟩)
   ·have:=X.kb hk
    ~⟨x,Qf2.2 ⟨this.1,this.2.1⟩,by unfold Qdc;rw [if_neg this.2.2]⟩
   ·~⟨T0,Qf2.2 ⟨h0,hn⟩,by unfold Qdc;rw [if_pos rfl]⟩
 ·rw [if_neg h0]
  have hb:x∈(X8 BL C).flatten<->x∈K:=by
   rw [Qf2,X.S.kin]
   ~⟨λk=>⟨k.1,k.2,λe=>h0 (e▸k.1)⟩,λk=>⟨k.1,k.2.1⟩⟩
  by_cases hw:0<T.i.words
  ·rw [if_pos hw,(Qfx T _ _ (by rw [JH];~X.b0)).mem_iff,Wn,Wo,hb]
   ~⟨λk=>k.imp id λk=>⟨k,hw⟩,λk=>k.imp id λk=>k.1⟩
  ·rw [if_neg hw,hb]
   ~⟨.inl,λk=>k.elim id λk=>absurd k.2 hw⟩
theorem StX.cseq(X:StX h BL l C K T0 T M){x:Itm}(hx:x∈BL.flatten):x.i.seq∈l.map Inc.seq<->x∈C:=by
 rw [<- X.S.ci,W3]
 constructor
 ·intro hm
  ð⟨y,hy,e⟩:=Wk.1 hm
  ~X.H.uniq (X.S.cin y hy) hx e▸hy
 ·intro hc
  ~W0 (f:=Inc.seq∘Itm.i) hc
theorem StX.rem(X:StX h BL l C K T0 T M):remA h.belts l=(X8 BL C).map λq=>q.map Itm.i:=by
 rw [QbP,X.H.bl]
 unfold X8
 rw [W3,W3]
 &WW λq hq=>?_
 show (q.map Itm.i).filter _=(q.filter λx=>bP (x∉C)).map Itm.i
 rw [List.filter_map]
 &congrArg _ (UT λx hx=>?_)
 have:=X.cseq (Vb.2 ⟨q,hq,hx⟩)
 show (!decide (x.i.seq∈l.map Inc.seq))=bP (x∉C)
 by_cases c:x∈C
 ·rw [Qdd (λk=>k c),decide_eq_true (this.2 c)];rfl
 ·rw [J5 c,decide_eq_false λk=>c (this.1 k)];rfl
theorem StX.belts(X:StX h BL l C K T0 T M):(ZG h l).belts=(Zt BL C T0 T).map (λq=>q.map Itm.i)/\(ZG h l).seq=(open Classical in if T0∈BL.flatten\/¬ 0<T.i.words then h.seq else h.seq+1):=by
 have ht:=X.tq
 have eto:(XV h l).1.to=T.i:=X.R.inv.to
 have hq:=X.q
 have hs0:=X.H.sq0
 show (stpB h l).1=_/\(stpB h l).2=_
 unfold stpB Zt
 rw [<- X.S.ti,eto,X.rem]
 by_cases h0:T0∈BL.flatten
 ·have hw:=X.S.tw.2 h0
  rw [if_pos hw,if_pos h0,if_pos (.inl h0)]
  &⟨?_,rfl⟩
  unfold repB
  rw [W3]
  apply V7
  intro n
  rw [W6,Wh,Wh]
  cases hb:(X8 BL C)[n]? with
  | none=>rfl
  | some q =>
   simp only [Wu,VZ]
   congr 1
   have hqm:∀ x∈q,x∈BL.flatten/\x.i.belt=(n:Int):=λx hx=>by
    unfold X8 at hb
    rw [Wh] at hb
    cases hb2:BL[n]? with
    | none=>rw [hb2] at hb;cases hb
    | some p =>
     rw [hb2,Wu] at hb
     injection hb with hb
     rw [<- hb] at hx
     ð⟨hl,rfl⟩:=Wq.1 hb2
     have hxp:=(WI.1 hx).1
     ~⟨Vb.2 ⟨_,Wc hl,hxp⟩,X.H.blt n hl x hxp⟩
   have hsw:∀ x∈q,(if x.i.seq=T.i.seq then T.i else x.i)=(Qdc T0 T x).i:=λx hx=>by
    unfold Qdc
    by_cases e:x=T0
    ·rw [if_pos e,if_pos (by rw [e,ht.1])]
    ·rw [if_neg e,if_neg]
     rw [ht.1]
     ~λk=>e (X.H.uniq (hqm x hx).1 h0 k)
   by_cases e:T.i.belt.toNat=n
   ·rw [if_pos e]
    show repQ T.i (q.map Itm.i)=(q.map (Qdc T0 T)).map Itm.i
    unfold repQ
    rw [W3,W3]
    ~WW hsw
   ·rw [if_neg e]
    show q.map Itm.i=(q.map (Qdc T0 T)).map Itm.i
    rw [W3]
    &WW λx hx=>?_
    show x.i=(Qdc T0 T x).i
    unfold Qdc
    rw [if_neg]
    rintro rfl
    have:=(hqm x hx).2
    rw [ht.2.1,this] at e
    ~e rfl
 ·have hw:¬ 0<T0.i.words:=λk=>h0 (X.S.tw.1 k)
  rw [if_neg hw,if_neg h0]
  by_cases hw2:0<T.i.words
  ·rw [if_pos hw2,if_pos hw2,if_neg (by rintro (k | k);~h0 k;~k hw2)]
   &⟨?_,Qd Oo⟩
   unfold addB
   rw [ht.2.1]
   apply V7
   intro n
   rw [W6,Wh,Wh,W6]
   cases (X8 BL C)[n]? with
   | none=>rfl
   | some q =>
    simp only [Wu,VZ]
    congr 1
    by_cases e:T0.i.belt.toNat=n
    ·rw [if_pos e,if_pos e,WH];rfl
    ·rw [if_neg e,if_neg e]
  ·rw [if_neg hw2,if_neg hw2,if_pos (.inr hw2)]
   ~⟨rfl,rfl⟩
theorem StX.itmK(X:StX h BL l C K T0 T M){x:Itm}(hx:x∈K):QaC (ZG h l).space x:=by
 have hX:=X.ctx.ks x hx
 have hxb:=X.kb hx
 have hi:IncC (ZG h l).space.fs x.i x.fr:=by
  rw [QfL]
  ~clrA_inc X.ln (s:=Xx h l) (X.R.inv.oth x (Wj _ hx)) λk=>hxb.2.1 ((X.cseq hxb.1).1 k)
 &⟨⟨hi,by rw [X.len3.1];~hX.inc.wd,hX.inc.len⟩,?_⟩
 rw [X.z3]
 &hX.lay.heads λo ho=>?_
 have b:=Itm.posOk X.ctx.ok hX (p:=o.1) (r:=o.2.1) (d:=o.2.2) ho
 have:=X.w_old (.inl hx) (p:=o.1) (r:=o.2.1) (d:=o.2.2) (k:=0) ho Oo (.inl rfl)
 rw [VW] at this
 ~this.trans b.2.2.2
theorem StX.tns(X:StX h BL l C K T0 T M):T.i.seq∉l.map Inc.seq:=λhm=>by
 rw [X.tq.1,<- X.S.ci,W3] at hm
 ð⟨y,hy,e⟩:=Wk.1 hm
 ~X.ctx.sqT y (Wf _ hy) e
theorem StX.incT(X:StX h BL l C K T0 T M):IncC (ZG h l).space.fs T.i T.fr:=by
 rw [QfL]
 ~clrA_inc X.ln (s:=Xx h l) X.R.inv.inc.toIncC X.tns
theorem StX.src(X:StX h BL l C K T0 T M){o:Nat×Nat×Nat×Nat}(ho:o∈nob T0.i.words.toNat M):∃ x∈C,∃ p,(p,o.2.2)∈obs 0 x.os/\o.1=adr (szS h.space) x.fr p:=X.R.inv.src _ (QfX M _ o ho)
theorem StX.itmT(X:StX h BL l C K T0 T M):QaC (ZG h l).space T:=by
 have hX:=X.ctx.t0
 have ht:=X.tq
 have hT:=X.R.inv.inc
 &⟨⟨X.incT,by rw [X.len3.1,<- X.R.inv.wl];~hT.wd,?_⟩,?_⟩
 ·have:=hT.len
  unfold clN at this ⊢
  rw [X.R.inv.z] at this
  ~this
 ·rw [X.z3,X.R.inv.os,ht.2.2.1,Wd]
  &Lay.append (q:=T0.i.words.toNat) ?_ ?_
  ·&hX.lay.heads λo ho=>?_
   have b:=Itm.posOk X.ctx.ok hX (p:=o.1) (r:=o.2.1) (d:=o.2.2) ho
   have hg:=hX.lay.get o ho
   have:=X.w_old (.inr rfl) (p:=o.1) (r:=o.2.1) (d:=o.2.2) (k:=0) ho Oo (.inl rfl)
   rw [VW] at this
   rw [X.tadr Oo]
   ~this.trans b.2.2.2
  ·&lay_nob λo ho=>?_
   ð⟨x,hx,p,hp,e⟩:=X.src ho
   have b:=Itm.posOk X.ctx.ok (X.ctx.cs x hx) hp
   ~⟨b.2.1,b.2.2.1,(X.w_new ho).1⟩
theorem StX.each(X:StX h BL l C K T0 T M):∀ x∈(Zt BL C T0 T).flatten,QaC (ZG h l).space x:=λx hx=>by
 rcases X.mem.1 hx with k | ⟨rfl,_⟩
 ·~X.itmK k
 ·~X.itmT
theorem StX.bseqs(X:StX h BL l C K T0 T M):(Zt BL C T0 T).flatten.Pairwise λx y=>x.i.seq≠y.i.seq:=by
 have hb:(X8 BL C).flatten.Pairwise λx y=>x.i.seq≠y.i.seq:=by
  unfold X8
  rw [<- Yu]
  ~X.H.sp.seqs.filter _
 unfold Zt
 by_cases h0:T0∈BL.flatten
 ·rw [if_pos h0,<- Yo,Vc]
  have hsw:∀ x,(Qdc T0 T x).i.seq=x.i.seq:=λx=>by
   unfold Qdc
   by_cases e:x=T0
   ·rw [if_pos e,e,X.tq.1]
   ·rw [if_neg e]
  ~hb.imp λk=>by rw [hsw,hsw];~k
 ·rw [if_neg h0]
  by_cases hw:0<T.i.words
  ·rw [if_pos hw,(Qfx T _ _ (by rw [JH];~X.b0)).pairwise_iff (λk e=>k e.symm),W5]
   &⟨hb,Yf _ _,λx hx y hy=>?_⟩
   rw [Wo.1 hy,X.tq.1]
   have:=Qf2.1 hx
   ~X.ctx.sqT x (Wj _ ((X.S.kin x).2 ⟨this.1,this.2,λe=>h0 (e▸this.1)⟩))
  ·rw [if_neg hw];~hb
theorem StX.all(X:StX h BL l C K T0 T M):∀ k (hk:k<(ZG h l).space.fs.length),¬ (ZG h l).space.fs[k].ow = -1->∃ x∈(Zt BL C T0 T).flatten,k∈x.fr:=λk hk h0=>by
 have hk2:k<(Xx h l).fs.length:=by rw [X.len2.2,<- X.len3.2];~hk
 have hnc:¬ isC (Xx h l).fs l k=true:=λhc=>by
  ð⟨k1,k2⟩:=QaJ X.ln hc
  apply h0
  have:(ZG h l).space.fs[k]=feF:=k2
  ~congrArg Fe.ow this
 ð⟨k1,k2⟩:=Qb1 X.ln hk2 hnc
 have e:(ZG h l).space.fs[k]=(Xx h l).fs[k]:=k2
 have h0:¬ (Xx h l).fs[k].ow = -1:=λk3=>h0 ((congrArg Fe.ow e).trans k3)
 rcases X.R.inv.own k hk2 h0 with hT | ⟨x,hx,hkx⟩
 ·&⟨T,X.mem.2 (.inr ⟨rfl,?_⟩),hT⟩
  have hT2:=X.R.inv.inc
  apply Classical.byContradiction
  intro hw
  have:=hT2.nil X.R.inv.ok.shp (by have:=hT2.wd;omega)
  rw [this] at hT
  cases hT
 ·rcases Wn.1 hx with c | c
  ·~absurd (X.isC2.2 ⟨x,c,hkx⟩) hnc
  ·~⟨x,X.mem.2 (.inl c),hkx⟩
theorem StX.sp(X:StX h BL l C K T0 T M):Qck (ZG h l).space (Zt BL C T0 T).flatten:=⟨X.ok3.1,X.ok3.2,X.each,X.bseqs,X.all⟩
end
section
variable{h:Hp}{BL:List (List Itm)}{l:List Inc}{C K:List Itm}{T0 T:Itm}{M:List (Nat×Nat×Nat)}
theorem StX.osT(X:StX h BL l C K T0 T M):obs 0 T.os=obs 0 T0.os++(nob T0.i.words.toNat M).map (·.2):=by
 rw [X.R.inv.os,obs_append T0.os (M.map (·.2)) 0 T0.i.words.toNat (szS h.space) h.space.ws T0.fr X.ctx.t0.lay,obs_map]
theorem StX.objOld(X:StX h BL l C K T0 T M){x:Itm}(hx:x∈K\/x=T0){p r d:Nat}(hp:(p,r,d)∈obs 0 x.os):∃ y∈(Zt BL C T0 T).flatten,(p,r,d)∈obs 0 y.os/\∀ k,k<=r+d->adr (szS h.space) y.fr (p+k)=adr (szS h.space) x.fr (p+k):=by
 rcases hx with hx | rfl
 ·~⟨x,X.mem.2 (.inl hx),hp,λk _=>rfl⟩
 ·have hxb:=(X.old (.inr rfl) hp (k:=0) Oo).1
  have hw:=X.S.tw.2 hxb
  have ht:=X.tq
  have hg:=X.ctx.t0.lay.get _ hp
  dsimp only at hg
  &⟨T,X.mem.2 (.inr ⟨rfl,Oo⟩),?_,λk hk=>X.tadr Oo⟩
  rw [X.osT]
  ~Wf _ hp
theorem StX.objNew(X:StX h BL l C K T0 T M){o:Nat×Nat×Nat×Nat}(ho:o∈nob T0.i.words.toNat M):T∈(Zt BL C T0 T).flatten/\o.2∈obs 0 T.os:=by
 have ht:=X.tq
 have hin:=J4 M _ o ho
 &⟨X.mem.2 (.inr ⟨rfl,Oo⟩),?_⟩
 rw [X.osT]
 ~Wj _ (W0 ho)
theorem StX.cases(X:StX h BL l C K T0 T M){y:Itm}(hy:y∈(Zt BL C T0 T).flatten){p r d:Nat}(hp:(p,r,d)∈obs 0 y.os) :
  (∃ x,(x∈K\/x=T0)/\(p,r,d)∈obs 0 x.os/\∀ k,k<=r+d->adr (szS h.space) y.fr (p+k)=adr (szS h.space) x.fr (p+k))\/(y=T/\∃ o∈nob T0.i.words.toNat M,o.2=(p,r,d)):=by
 rcases X.mem.1 hy with k | ⟨rfl,_⟩
 ·~.inl ⟨y,.inl k,hp,λk _=>rfl⟩
 ·rw [X.osT] at hp
  rcases Wn.1 hp with hp | hp
  ·have hg:=X.ctx.t0.lay.get _ hp
   dsimp only at hg
   ~.inl ⟨T0,.inr rfl,hp,λk hk=>X.tadr Oo⟩
  ·ð⟨o,ho,e⟩:=Wk.1 hp
   ~.inr ⟨rfl,o,ho,e⟩
theorem StX.mv(X:StX h BL l C K T0 T M){m:Mov}(hm:m∈(XV h l).1.mv):∃ o∈nob T0.i.words.toNat M,m=⟨(o.1:Int),((adr (szS h.space) T.fr o.2.1:Nat):Int)⟩:=by
 rw [X.R.inv.mv] at hm
 ð⟨o,ho,rfl⟩:=Wk.1 hm
 ~⟨o,ho,rfl⟩
theorem StX.winOf(X:StX h BL l C K T0 T M){w:Int}(hw:¬ QdJ h.space (C.map Itm.i) w)(hr:RefW (szS h.space) BL.flatten w):w=0\/(1<=w/\∃ x,(x∈K\/x=T0)/\∃ p r d,(p,r,d)∈obs 0 x.os/\(w-1).toNat=adr (szS h.space) x.fr p/\x∈BL.flatten):=by
 rcases hr with hr | ⟨h1,r,d,y,hy,p,hp,e⟩
 ·~.inl hr
 ·have hY:=X.H.sp.each y hy
  have b:=Itm.posOk X.H.sp.ok hY hp
  have hlt:=Jo X.H.sp.ok.shp hY.inc.ch.lt (p:=p) Oo
  &.inr ⟨h1,y,out_kt X.S hy λhc=>hw ⟨⟨Oo,Oo⟩,?_⟩,p,r,d,hp,e,hy⟩
  rw [Qf8 λx hx=>(X.H.sp.each x (X.S.cin x hx)).inc.toIncC]
  &⟨y,hc,?_⟩
  have:=(Z2 X.H.sp.ok hY hp (k:=0) Oo (q:=w-1) Oo e).1
  ~this
theorem StX.img(X:StX h BL l C K T0 T M){w v:Int}(hr:RefW (szS h.space) BL.flatten w)(hi:ImgP h.space C (XV h l).1.mv w v):RefW (szS h.space) (Zt BL C T0 T).flatten v:=by
 rcases hi with ⟨hn,rfl⟩ | ⟨hw,m,hm,e1,e2⟩
 ·rcases X.winOf hn hr with k | ⟨h1,x,hx,p,r,d,hp,e,_⟩
  ·~.inl k
  ·ð⟨y,hy,hp2,ea⟩:=X.objOld hx hp
   ~.inr ⟨h1,r,d,y,hy,p,hp2,by rw [e];~(ea 0 Oo).symm⟩
 ·ð⟨o,ho,rfl⟩:=X.mv hm
  ð⟨h1,h2⟩:=X.objNew ho
  dsimp only at e2
  ~.inr ⟨Oo,o.2.2.1,o.2.2.2,T,h1,o.2.1,h2,Oo⟩
theorem StX.slot(X:StX h BL l C K T0 T M){q:Nat}(hq:QaB (szS h.space) (Zt BL C T0 T).flatten q) :
  ∃ w,RefW (szS h.space) BL.flatten w/\ImgP h.space C (XV h l).1.mv w (wAt (ZG h l).space (q:Int)):=by
 ð⟨y,hy,p,r,d,hp,k,k1,k2,rfl⟩:=hq
 rcases X.cases hy hp with ⟨x,hx,hp2,ea⟩ | ⟨rfl,o,ho,e⟩
 ·rw [ea k Oo]
  have hxb:=(X.old hx hp2 (k:=k) Oo).1
  ~⟨_,X.H.refs _ ⟨x,hxb,p,r,d,hp2,k,k1,k2,rfl⟩,(X.r_old hx hp2 k1 k2).1⟩
 ·have e1:o.2.1=p:=by rw [e]
  have e2:o.2.2.1=r:=by rw [e]
  ð⟨x,hx,p',hp',ex⟩:=X.src ho
  have:=X.r_new ho (k:=k) k1 Oo
  rw [e1] at this
  &⟨_,?_,this⟩
  rw [ex,srcA_at X.ctx.toEvB hx hp' (by show k<=o.2.2.1+o.2.2.2;omega)]
  ~X.H.refs _ ⟨x,X.S.cin x hx,p',o.2.2.1,o.2.2.2,hp',k,k1,Oo,rfl⟩
theorem StX.refs(X:StX h BL l C K T0 T M):∀ q,QaB (szS (ZG h l).space) (Zt BL C T0 T).flatten q->RefW (szS (ZG h l).space) (Zt BL C T0 T).flatten (wAt (ZG h l).space (q:Int)):=λq hq=>by
 ð⟨w,h1,h2⟩:=X.slot hq
 ~X.img h1 h2
theorem StX.root(X:StX h BL l C K T0 T M){i:Nat}(hi:i∈Zv h.roots):ImgP h.space C (XV h l).1.mv (QD h.roots i) (QD (ZG h l).roots i):=by
 have h32:=X.H.rts.u
 have h32r:=X.H.rts.v
 have hil:i<h.roots.refs.length:=by
  have:=(Wq.1 (Xs.1 hi)).1
  omega
 have hnd:((QaS h.space h.roots l).map λ(i:Nat)=>(i:Int)).Pairwise λa b=>a.toNat≠b.toNat:=by
  rw [Vc]
  have:(QaS h.space h.roots l).Pairwise (· < ·):=by
   unfold QaS Zv
   ~(List.pairwise_lt_range.filter _).filter _
  ~this.imp λh=>by omega
 by_cases hm:i∈QaS h.space h.roots l
 ·ð⟨j,hj⟩:=Vd.1 hm
  have hjl:=(Wq.1 hj).1
  have hlens:=stp_lens X.R
  have hwr:=wrtL_at ((QaS h.space h.roots l).map λ(i:Nat)=>(i:Int)) ((XV h l).2.take (QaS h.space h.roots l).length) h.roots.refs hnd (by rw [Wb,Wi];omega) (λq hq=>by
   ð⟨a,ha,rfl⟩:=Wk.1 hq
   have:=(Wq.1 (Xs.1 (Qgc ha).1)).1
   rw [Wd];omega) j (i:Int) ((XV h l).2[j]' Oo) (by rw [Wh,hj];rfl) (by rw [WL,if_pos hjl,Wa Oo])
  rw [Wd] at hwr
  have e:QD (ZG h l).roots i=(XV h l).2[j]' Oo:=by
   unfold QD
   show ((stpR h l)[i]?).getD 0=_
   unfold stpR
   rw [hwr];rfl
  rw [e]
  &X.R.img j _ _ ?_ (Wa Oo)
  unfold stpW
  rw [WM (by rw [Wb];~hjl),Wh,hj]
  rfl
 ·have e:QD (ZG h l).roots i=QD h.roots i:=by
   unfold QD
   show ((stpR h l)[i]?).getD 0=_
   unfold stpR
   rw [Qei _ _ _ _ λq hq e=>?_]
   ð⟨a,ha,rfl⟩:=Wk.1 hq
   rw [Wd] at e
   ~hm (e▸ha)
  rw [e]
  &.inl ⟨λhw=>hm ?_,rfl⟩
  unfold QaS
  rw [WI,QE]
  rw [X.S.ci] at hw
  ~⟨hi,hw⟩
theorem StX.roots(X:StX h BL l C K T0 T M):Qb6 (ZG h l).roots/\∀ i∈Zv (ZG h l).roots,1<=QD (ZG h l).roots i/\∃ r d,ObjZ (szS (ZG h l).space) (Zt BL C T0 T).flatten (QD (ZG h l).roots i-1).toNat r d:=by
 have hr:=X.H.rts
 &⟨⟨hr.u,(QbL _ _ _).trans hr.v,λi h1 h2 hf=>?_,λx hx=>?_⟩,λi hi=>?_⟩
 ·have h2':i<h.roots.refs.length:=by have:=hr.u;have:=hr.v;have:i<h.roots.used.length:=h1;omega
  have hne:=Qei ((QaS h.space h.roots l).map λ(i:Nat)=>(i:Int)) ((XV h l).2.take (QaS h.space h.roots l).length) h.roots.refs i λq hq e=>by
   ð⟨a,ha,rfl⟩:=Wk.1 hq
   rw [Wd] at e
   subst e
   have:=Xs.1 (Qgc ha).1
   rw [Wa (show a<h.roots.used.length from h1)] at this
   injection this with this
   ~absurd ((show h.roots.used[a]=false from hf).symm.trans this) Od
  have:=hr.z i h1 h2' hf
  rw [Wa h2'] at hne
  rw [this] at hne
  ~(Wq.1 hne).2
 ·~wrtL_all _ _ _ hr.w (λv hv=>X.R.u v (VU hv)) x hx
 ·have hi:i∈Zv h.roots:=hi
  have hroot:=X.H.roots i hi
  have:=X.img (.inr hroot) (X.root hi)
  rcases this with k | k
  ·exfalso
   rcases X.root hi with ⟨_,e⟩ | ⟨_,m,hm,_,e⟩
   ·rw [e] at k;omega
   ·ð⟨o,ho,rfl⟩:=X.mv hm
    rw [e] at k
    dsimp only at k
    omega
  ·~k
theorem StX.same(X:StX h BL l C K T0 T M){x:Itm}(hx:x∈K\/x=T0)(hxb:x∈BL.flatten){k:Nat}(hk:k∈x.fr) :
  ∃ (h0:k<h.space.fs.length) (h3:k<(ZG h l).space.fs.length),(ZG h l).space.fs[k].ow=h.space.fs[k].ow/\(ZG h l).space.fs[k].st=h.space.fs[k].st/\¬ h.space.fs[k].ow = -1:=by
 have h0i:=(X.H.sp.each x hxb).inc.toIncC
 have h0:=h0i.ch.lt k hk
 have h3:k<(ZG h l).space.fs.length:=by rw [X.len3.2];~h0
 &⟨h0,h3,?_⟩
 have hsq:=h0i.sq
 rw [(h0i.ow k h0).2 hk,h0i.st k h0 hk]
 rcases hx with hx | rfl
 ·have h3i:=(X.itmK hx).inc.toIncC
  ~⟨(h3i.ow k h3).2 hk,h3i.st k h3 hk,Oo⟩
 ·ð⟨m,e⟩:=X.tfr
  have hkT:k∈T.fr:=by rw [e];~Wf _ hk
  have ht:=X.tq
  have h3i:=X.incT
  &⟨?_,?_,Oo⟩
  ·rw [(h3i.ow k h3).2 hkT,ht.1]
  ·rw [h3i.st k h3 hkT,ht.1,ht.2.1]
theorem StX.fields(X:StX h BL l C K T0 T M){o:Nat×Nat×Nat×Nat}(ho:o∈nob T0.i.words.toNat M) :
  (Qb7 (Xx h l) ((adr (szS h.space) T.fr o.2.1:Nat):Int)).1=(List.range o.2.2.1).map λj=>((adr (szS h.space) T.fr (o.2.1+(j+1)):Nat):Int):=by
 ð⟨x,hx,p,hp,e⟩:=X.src ho
 have b:=Itm.posOk X.ctx.ok (X.ctx.cs x hx) hp
 have hroom:=(X.new ho (k:=o.2.2.1+o.2.2.2) Oo).2.2
 have hch:Chn (Xx h l).fs T.fr:=X.R.inv.inc.ch
 have how:Own (Xx h l).fs T.fr:=X.R.inv.inc.own
 have hhd:(Xx h l).ws[adr (szS (Xx h l)) T.fr o.2.1]?=some (hdW o.2.2.1 o.2.2.2):=by
  rw [X.z2,<- X.w3 (.inr rfl) Oo]
  ~(X.w_new ho).1
 have hlk:=(Qdo X.ok2.1 hch how (p:=o.2.1) (r:=o.2.2.1) (d:=o.2.2.2) (by rw [X.z2];omega) b.2.1 b.2.2.1 hhd).1
 rw [X.z2] at hlk
 unfold Qb7
 rw [hlk,if_pos rfl]
 dsimp only
 unfold fldL
 rw [Wd]
 &WW λj hj=>?_
 rw [Wz] at hj
 have:=go_k (k:=j+1) X.ok2.1.shp hch how (p:=o.2.1) (by rw [X.z2];omega)
 rw [X.z2] at this
 rw [show (1+(j:Int))=((j+1:Nat):Int) by omega,this]
theorem StX.movF(X:StX h BL l C K T0 T M){q:Int}:q∈movF (Xx h l) (XV h l).1.mv<->∃ o∈nob T0.i.words.toNat M,∃ k,1<=k/\k<=o.2.2.1/\q=((adr (szS h.space) T.fr (o.2.1+k):Nat):Int):=by
 unfold Go.Proofs.YtkfnkecgcdhncaaGreat.movF
 rw [Up]
 constructor
 ·rintro ⟨m,hm,hq⟩
  ð⟨o,ho,rfl⟩:=X.mv hm
  rw [X.fields ho] at hq
  ð⟨j,hj,rfl⟩:=Wk.1 hq
  rw [Wz] at hj
  ~⟨o,ho,j+1,Oo,Oo,rfl⟩
 ·rintro ⟨o,ho,k,k1,k2,rfl⟩
  &⟨⟨(o.1:Int),((adr (szS h.space) T.fr o.2.1:Nat):Int)⟩,by rw [X.R.inv.mv];~Wk.2 ⟨o,ho,rfl⟩,?_⟩
  rw [X.fields ho]
  ~Wk.2 ⟨k-1,by rw [Wz];omega,by rw [show o.2.1+(k-1+1)=o.2.1+k by omega]⟩
theorem StX.inS(X:StX h BL l C K T0 T M):Qo (ZG h l).sets/\XB (ZG h l).sets/\∀ f t q,InS (ZG h l).sets f t q <->
  (InS h.sets f t q/\¬ f∈(cfr (Xx h l).fs l).map (λ(k:Nat)=>(k:Int))/\¬ t∈(cfr (Xx h l).fs l).map (λ(k:Nat)=>(k:Int))) \/
   ((q∈Qcm h.space h.sets l\/q∈Go.Proofs.YtkfnkecgcdhncaaGreat.movF (Xx h l) (XV h l).1.mv)/\QaL (Xx h l) q (wAt (Xx h l) q)/\f=X7 (Xx h l) q/\t=X7 (Xx h l) (wAt (Xx h l) q-1)):=by
 have d1:=dropS_ok X.H.sok ((cfr (Xx h l).fs l).map λ(k:Nat)=>(k:Int))
 have d2:XB (Qew h.sets ((cfr (Xx h l).fs l).map λ(k:Nat)=>(k:Int))):=λx hx=>X.H.sin x (Qcv.1 hx).1
 ð⟨n1,n2,n3⟩:=QdR X.ok2.1 (Qcm h.space h.sets l) d1 d2
 ð⟨m1,m2,m3⟩:=QdR X.ok2.1 (Go.Proofs.YtkfnkecgcdhncaaGreat.movF (Xx h l) (XV h l).1.mv) n1 n2
 &⟨m1,m2,λf t q=>(m3 f t q).trans ?_⟩
 rw [n3,InS_drop]
 constructor
 ·rintro ((k | ⟨k,k2⟩) | ⟨k,k2⟩)
  ·~.inl k
  ·~.inr ⟨.inl k,k2⟩
  ·~.inr ⟨.inr k,k2⟩
 ·rintro (k | ⟨k | k,k2⟩)
  ·~.inl (.inl k)
  ·~.inl (.inr ⟨k,k2⟩)
  ·~.inr ⟨k,k2⟩
end
theorem lt_sub{a b c d:Int}(h:a<b)(e1:a=c)(e2:b=d):c<d:=by subst e1;subst e2;~h
theorem fs_at{fs:List Fe}{i j:Nat}(e:i=j)(hj:j<fs.length)(h:¬ fs[j].ow = -1):∃ hi:i<fs.length,¬ fs[i].ow = -1:=by subst e;~⟨hj,h⟩
section
variable{h:Hp}{BL:List (List Itm)}{l:List Inc}{C K:List Itm}{T0 T:Itm}{M:List (Nat×Nat×Nat)}
theorem obj_owned{s:Sp}{L:List Itm}(hs:Qck s L){a r d:Nat}(ho:ObjZ (szS s) L a r d){q:Int}(hq:0<=q)(e:q.toNat=a):∃ hl:X7 s q<s.fs.length,¬ s.fs[X7 s q].ow = -1:=by
 ð⟨x,hx,p,hp,rfl⟩:=ho
 have hX:=hs.each x hx
 have:=(Z2 hs.ok hX hp (k:=0) Oo hq e).1
 have hl:=hX.inc.ch.lt _ this
 ~⟨hl,hX.inc.toIncC.own _ this hl⟩
theorem StX.cf(X:StX h BL l C K T0 T M){k:Nat}:((k:Nat):Int)∈(cfr (Xx h l).fs l).map (λ(k:Nat)=>(k:Int))<->∃ c∈C,k∈c.fr:=by rw [mem_nat,Qf1];~X.isC2
theorem StX.ncf(X:StX h BL l C K T0 T M){x:Itm}(hx:x∈K\/x=T0)(hxb:x∈BL.flatten){k:Nat}(hk:k∈x.fr):¬ ((k:Nat):Int)∈(cfr (Xx h l).fs l).map (λ(k:Nat)=>(k:Int)):=by
 rw [X.cf]
 rintro ⟨c,hc,hkc⟩
 have h1:=(X.H.sp.each x hxb).inc.toIncC
 have h2:=(X.H.sp.each c (X.S.cin c hc)).inc.toIncC
 ~h1.disj h2 (λe=>X.notC hx (X.H.uniq hxb (X.S.cin c hc) e▸hc)) k hk hkc
theorem StX.wAt2(X:StX h BL l C K T0 T M){q:Nat}(hq:QaB (szS h.space) (Zt BL C T0 T).flatten q):wAt (Xx h l) (q:Int)=wAt (ZG h l).space (q:Int):=by
 ð⟨y,hy,p,r,d,hp,k,k1,k2,rfl⟩:=hq
 have hY:=X.each y hy
 have b:=Itm.posOk X.ok3.1 hY hp
 rw [X.z3] at b
 have hyk:y∈K\/y=T:=(X.mem.1 hy).imp id λk=>k.1
 have e:=X.w3 hyk (p:=p+k) Oo
 have hlt:=Jo X.ok3.1.shp hY.inc.ch.lt (p:=p+k) (by rw [X.z3];omega)
 rw [X.z3] at hlt
 ~wAt_opt e.symm hlt
theorem StX.snd(X:StX h BL l C K T0 T M):∀ f t q,InS (ZG h l).sets f t q->QaB (szS (ZG h l).space) (Zt BL C T0 T).flatten q.toNat/\f=(X7 (ZG h l).space q:Int)/\∃ (h2:t.toNat<(ZG h l).space.fs.length),0<=t/\¬ (ZG h l).space.fs[t.toNat].ow = -1:=λf t q hi=>by
 rcases (X.inS.2.2 f t q).1 hi with ⟨k1,k2,k3⟩ | ⟨k1,k2,k3,k4⟩
 ·
  ð⟨⟨x,hx,p,r,d,hp,k,j1,j2,e⟩,ef,ht,ht0,hto⟩:=X.H.snd f t q k1
  have hq0:0<=q:=by
   ð⟨y,hy,_,_,hyq⟩:=k1
   ~(X.H.sin y hy q hyq).1
  have hn:x∉C:=λhc=>k2 (by
   rw [ef]
   ~X.cf.2 ⟨x,hc,(Z2 X.H.sp.ok (X.H.sp.each x hx) hp Oo hq0 e).1⟩)
  ð⟨y,hy,hp2,ea⟩:=X.objOld (out_kt X.S hx hn) hp
  &⟨⟨y,hy,p,r,d,hp2,k,j1,j2,by rw [e];~(ea k Oo).symm⟩,ef,?_⟩
  ð⟨z,hz,hzt⟩:=X.H.sp.all t.toNat ht hto
  have hzn:z∉C:=λhc=>k3 (by
   have:=X.cf.2 ⟨z,hc,hzt⟩
   rwa [show ((t.toNat:Nat):Int)=t by omega] at this)
  ð⟨g0,g3,e1,_,e3⟩:=X.same (out_kt X.S hz hzn) hz hzt
  ~⟨g3,ht0,by rw [e1];~e3⟩
 ·have hslot:QaB (szS h.space) (Zt BL C T0 T).flatten q.toNat/\0<=q:=by
   rcases k1 with k1 | k1
   ·ð⟨q0,_,x,hx,hn,p,r,d,hp,k,j1,j2,e⟩:=QaG X.H X.S k1
    ð⟨y,hy,hp2,ea⟩:=X.objOld (out_kt X.S hx hn) hp
    ~⟨⟨y,hy,p,r,d,hp2,k,j1,j2,by rw [e];~(ea k Oo).symm⟩,q0⟩
   ·ð⟨o,ho,k,j1,j2,rfl⟩:=X.movF.1 k1
    ð⟨g1,g2⟩:=X.objNew ho
    ~⟨⟨T,g1,o.2.1,o.2.2.1,o.2.2.2,g2,k,j1,j2,by rw [Wd]⟩,Oo⟩
  have ew:=X.wAt2 hslot.1
  rw [show ((q.toNat:Nat):Int)=q by omega] at ew
  &⟨hslot.1,k3,?_⟩
  have hr:=X.refs q.toNat hslot.1
  rw [show ((q.toNat:Nat):Int)=q by omega,<- ew] at hr
  rcases hr with hr | ⟨hr1,r,d,ho⟩
  ·~absurd hr k2.1.1
  ·ð⟨g1,g2⟩:=obj_owned X.sp ho (q:=wAt (Xx h l) q-1) Oo rfl
   ð⟨w1,w2⟩:=fs_at (show t.toNat=X7 (ZG h l).space (wAt (Xx h l) q-1) from by rw [k4,Wd];rfl) g1 g2
   ~⟨w1,Oo,w2⟩
theorem StX.cmp(X:StX h BL l C K T0 T M):∀ q,QaB (szS (ZG h l).space) (Zt BL C T0 T).flatten q->QaL (ZG h l).space (q:Int) (wAt (ZG h l).space (q:Int))->InS (ZG h l).sets (X7 (ZG h l).space (q:Int):Int) (X7 (ZG h l).space (wAt (ZG h l).space (q:Int)-1):Int) (q:Int):=λq hq hneed=>by
 have hq:QaB (szS h.space) (Zt BL C T0 T).flatten q:=hq
 have ew:=X.wAt2 hq
 have hneed2:QaL (Xx h l) (q:Int) (wAt (Xx h l) (q:Int)):=by
  rw [ew]
  ð⟨⟨a1,a2,a3,a4⟩,g1,g2,o1,o2,o3⟩:=hneed
  have hnc:∀ k (hk:k<(ZG h l).space.fs.length),¬ (ZG h l).space.fs[k].ow = -1->∃ hk2:k<(Xx h l).fs.length,(ZG h l).space.fs[k].ow=(Xx h l).fs[k].ow/\(ZG h l).space.fs[k].st=(Xx h l).fs[k].st:=λk hk ho=>by
   have hk2:k<(Xx h l).fs.length:=by rw [X.len2.2,<- X.len3.2];~hk
   have hn:¬ isC (Xx h l).fs l k=true:=λhc=>by
    ð⟨k1,k2⟩:=QaJ X.ln hc
    have:(ZG h l).space.fs[k]=feF:=k2
    ~ho (congrArg Fe.ow this)
   ð⟨k1,k2⟩:=Qb1 X.ln hk2 hn
   have:(ZG h l).space.fs[k]=(Xx h l).fs[k]:=k2
   ~⟨hk2,congrArg Fe.ow this,congrArg Fe.st this⟩
  ð⟨p1,p2,p3⟩:=hnc _ g1 o1
  ð⟨q1,q2,q3⟩:=hnc _ g2 o2
  &⟨⟨a1,by rw [X.len2.1,<- X.len3.1];~a2,a3,by rw [X.len2.1,<- X.len3.1];~a4⟩,p1,q1,?_,?_,?_⟩
  ·~λk=>o1 (p2.trans k)
  ·~λk=>o2 (q2.trans k)
  ·~lt_sub o3 q3 p3
 have fin:((q:Int)∈Qcm h.space h.sets l\/(q:Int)∈Go.Proofs.YtkfnkecgcdhncaaGreat.movF (Xx h l) (XV h l).1.mv)->InS (ZG h l).sets (X7 (ZG h l).space (q:Int):Int) (X7 (ZG h l).space (wAt (ZG h l).space (q:Int)-1):Int) (q:Int):=λhm=>by
  &(X.inS.2.2 _ _ _).2 (.inr ⟨hm,hneed2,rfl,?_⟩)
  rw [ew]
  rfl
 ð⟨y,hy,p,r,d,hp,k,k1,k2,rfl⟩:=hq
 rcases X.cases hy hp with ⟨x,hx,hp2,ea⟩ | ⟨rfl,o,ho,e⟩
 ·rw [ea k Oo] at hneed fin ⊢
  by_cases hm:((adr (szS h.space) x.fr (p+k):Nat):Int)∈Qcm h.space h.sets l
  ·~fin (.inl hm)
  ·ð⟨hv,hnw⟩:=(X.r_old hx hp2 k1 k2).2 hm
   have hxb:=(X.old hx hp2 (k:=k) Oo).1
   have hslot0:QaB (szS h.space) BL.flatten (adr (szS h.space) x.fr (p+k)):=⟨x,hxb,p,r,d,hp2,k,k1,k2,rfl⟩
   rw [hv] at hneed ⊢
   have hw0:=X.H.refs _ hslot0
   rcases X.winOf (by rw [X.S.ci];~hnw) hw0 with k0 | ⟨hw1,z,hz,p',r',d',hp',ez,hzb⟩
   ·~absurd k0 hneed.1.1
   ·ð⟨f1,f2⟩:=Z2 X.H.sp.ok (X.H.sp.each x hxb) hp2 (k:=k) Oo (q:=((adr (szS h.space) x.fr (p+k):Nat):Int)) Oo Oo
    ð⟨f3,f4⟩:=Z2 X.H.sp.ok (X.H.sp.each z hzb) hp' (k:=0) Oo (q:=wAt h.space ((adr (szS h.space) x.fr (p+k):Nat):Int)-1) Oo ez
    ð⟨a1,a2,a3,a4,a5⟩:=X.same hx hxb f1
    ð⟨b1,b2,b3,b4,b5⟩:=X.same hz hzb f3
    ð⟨⟨c1,c2,c3,c4⟩,g1,g2,o1,o2,o3⟩:=hneed
    have hn0:QaL h.space ((adr (szS h.space) x.fr (p+k):Nat):Int) (wAt h.space ((adr (szS h.space) x.fr (p+k):Nat):Int)):=by
     &⟨⟨c1,by rw [<- X.len3.1];~c2,c3,by rw [<- X.len3.1];~c4⟩,a1,b1,a5,b5,?_⟩
     ~lt_sub o3 b4 a4
    have hc:=X.H.cmp _ hslot0 hn0
    ~(X.inS.2.2 _ _ _).2 (.inl ⟨hc,X.ncf hx hxb f1,X.ncf hz hzb f3⟩)
 ·have e1:o.2.1=p:=by rw [e]
  have e2:o.2.2.1=r:=by rw [e]
  &fin (.inr (X.movF.2 ⟨o,ho,k,k1,Oo,by rw [e1]⟩))
theorem clN_words{s:Sp}(hs:ZL s){i:Inc}{fr:List Nat}(h:QcE s i fr):fr.length=QdV (szS s) i.words.toNat:=by
 have hw:=h.wd
 have hwl:=Z7 hs
 have:=h.len
 rw [Qb3 hs.shp.sh ⟨Oo,Oo⟩] at this
 omega
theorem StX.free(X:StX h BL l C K T0 T M):(Qk h.space.fs).length<=(Qk (ZG h l).space.fs).length:=by
 have hz:=X.z
 ð⟨m,m1,m2⟩:=X.R.inv.fr
 have e1:=congrArg List.length m1
 have e2:=congrArg List.length m2
 rw [We,Wi] at e1
 rw [Ww] at e2
 have t1:=clN_words X.R.inv.ok X.R.inv.inc
 rw [X.R.inv.z,X.tq.2.2.1,Wd] at t1
 have t0:=clN_words X.ctx.ok X.ctx.t0.inc
 have c1:=Qgo (z:=szS h.space) Oo T0.i.words.toNat (szM M)
 have c2:=ceilN_mono (z:=szS h.space) Oo (ev_sum X.ctx.toEvB X.R.inv.src X.R.inv.nd)
 have c3:=ceil_sum X.ctx.ok X.ctx.cs
 have c4:sumF h.space C=((C.flatMap Itm.fr).length:Int):=by
  have:∀ (C:List Itm),(∀ x∈C,QaC h.space x)->sumF h.space C=((C.flatMap Itm.fr).length:Int):=by
   intro C
   induction C with
   | nil=>intro _;rfl
   | cons x C ih =>
    intro hc
    have h1:=ih λy hy=>hc y (Wm _ hy)
    have h2:=(hc x (WA ..)).inc.len
    unfold sumF at h1 ⊢
    rw [Vg,UK,VJ,We,h1,<- h2]
    push_cast;rfl
  ~this C X.ctx.cs
 have hnd:(Qk (XV h l).1.s.fs++C.flatMap Itm.fr).Nodup:=by
  rw [Um]
  &⟨(YK).filter _,?_,λa ha b hb=>?_⟩
  ·rw [Vh,Y3]
   &⟨λx hx=>Vh.1 (X.ctx.cs x hx).inc.nd,?_⟩
   have hn:=X.tgt.nodup
   rw [<- X.S.ci,W3,Vh,Vc] at hn
   &hn.imp_of_mem λ{a b} ha hb hab x hx y hy e=>?_
   subst e
   ~(X.ctx.cs a ha).inc.toIncC.disj (X.ctx.cs b hb).inc.toIncC hab x hx hy
  ·rintro rfl
   ð⟨c,hc,hac⟩:=Up.1 hb
   ð⟨k1,k2⟩:=Qcz ha
   ~(X.R.inv.oth c (Wf _ hc)).own a hac k1 k2
 have hsub:=sub_len _ (Qk (ZG h l).space.fs) hnd λa ha=>by
  have key:∃ hk:a<(ZG h l).space.fs.length,(ZG h l).space.fs[a].ow = -1:=by
   rcases Wn.1 ha with ha | ha
   ·ð⟨k1,k2⟩:=Qcz ha
    by_cases hc:isC (Xx h l).fs l a=true
    ·ð⟨j1,j2⟩:=QaJ X.ln hc
     ~⟨j1,congrArg Fe.ow (show (ZG h l).space.fs[a]=feF from j2)⟩
    ·ð⟨j1,j2⟩:=Qb1 (s:=Xx h l) X.ln k1 hc
     ~⟨j1,(congrArg Fe.ow (show (ZG h l).space.fs[a]=(Xx h l).fs[a] from j2)).trans k2⟩
   ·ð⟨c,hc,hac⟩:=Up.1 ha
    ð⟨j1,j2⟩:=QaJ X.ln (X.isC2.2 ⟨c,hc,hac⟩)
    ~⟨j1,congrArg Fe.ow (show (ZG h l).space.fs[a]=feF from j2)⟩
  ð⟨k1,k2⟩:=key
  unfold Qk
  rw [WI,Wz]
  ~⟨k1,by rw [QbW k1,k2];rfl⟩
 rw [We] at hsub
 have hfl:(Qk (XV h l).1.s.fs).length=(Qk h.space.fs).length-m:=e2
 omega
theorem StX.inv(X:StX h BL l C K T0 T M):QG (ZG h l) (Zt BL C T0 T):=by
 have ht:=X.tq
 ð⟨b1,b2⟩:=X.belts
 have hq:=X.q
 ð⟨r1,r2⟩:=X.roots
 ð⟨s1,s2,_⟩:=X.inS
 have hbn:(Zt BL C T0 T).length=BL.length:=by
  have:=congrArg List.length b1
  unfold Zt
  split
  ·rw [Wb,JH]
  ·split
   ·rw [Yb,JH]
   ·~JH _ _
 have hsqK:∀ x∈K,x.i.seq<h.seq:=λx hx=>X.H.sq x (X.kb hx).1
 &⟨X.H.cfg,b1,hbn.trans X.H.bn,X.sp,λx hx=>?_,?_,?_,λx hx=>?_,?_,r1,r2,X.refs,s1,s2,X.snd,X.cmp,λhc=>?_⟩
 ·rcases X.mem.1 hx with k | ⟨rfl,k⟩
  ·~X.H.pos x (X.kb k).1
  ·omega
 ·
  intro b hb x hx
  have hbb:b<BL.length:=by rw [<- hbn];~hb
  have hbse:∀ (hb2:b<(X8 BL C).length),∀ y∈(X8 BL C)[b],y∈BL[b]:=λhb2 y hy=>by
   have:(X8 BL C)[b]?=some (BL[b].filter λx=>bP (x∉C)):=by unfold X8;rw [Wh,Wa hbb];rfl
   rw [Wa hb2] at this
   injection this with this
   rw [this] at hy
   ~(WI.1 hy).1
  have hget:(Zt BL C T0 T)[b]?=some (Zt BL C T0 T)[b]:=Wa hb
  generalize hq':(Zt BL C T0 T)[b]=q at hx hget
  unfold Zt at hget
  have hb2:b<(X8 BL C).length:=by rw [JH];~hbb
  split at hget
  ·rw [Wh,Wa hb2,Wu] at hget
   injection hget with hget
   rw [<- hget] at hx
   ð⟨y,hy,rfl⟩:=Wk.1 hx
   have:=X.H.blt b hbb y (hbse hb2 y hy)
   unfold Qdc
   split
   ·rename_i e;rw [ht.2.1,<- e];~this
   ·~this
  ·split at hget
   ·rw [W6,Wa hb2] at hget
    simp only [VZ,Wu] at hget
    injection hget with hget
    rw [<- hget] at hx
    split at hx
    ·rename_i e
     rcases Wn.1 hx with hx | hx
     ·~X.H.blt b hbb x (hbse hb2 x hx)
     ·rw [Wo.1 hx,ht.2.1]
      have:=X.S.tb
      omega
    ·~X.H.blt b hbb x (hbse hb2 x hx)
   ·rw [Wa hb2] at hget
    injection hget with hget
    rw [<- hget] at hx
    ~X.H.blt b hbb x (hbse hb2 x hx)
 ·
  intro q hqm
  have hbse:∀ p∈X8 BL C,p.Pairwise (λx y=>x.i.seq<y.i.seq)/\∀ y∈p,y∈BL.flatten/\y∉C:=λp hp=>by
   unfold X8 at hp
   ð⟨p',hp',rfl⟩:=Wk.1 hp
   &⟨(X.H.asc p' hp').filter _,λy hy=>?_⟩
   have:=WI.1 hy
   ~⟨Vb.2 ⟨p',hp',this.1⟩,QE.1 this.2⟩
  unfold Zt at hqm
  split at hqm
  ·ð⟨p,hp,rfl⟩:=Wk.1 hqm
   rw [Vc]
   have hsw:∀ x,(Qdc T0 T x).i.seq=x.i.seq:=λx=>by
    unfold Qdc
    split
    ·rename_i e;rw [e,ht.1]
    ·rfl
   ~(hbse p hp).1.imp λk=>by rw [hsw,hsw];~k
  ·rename_i h0
   split at hqm
   ·ð⟨n,hn⟩:=Vd.1 hqm
    rw [W6] at hn
    cases hb:(X8 BL C)[n]? with
    | none=>rw [hb] at hn;cases hn
    | some p =>
     rw [hb] at hn
     simp only [VZ,Wu] at hn
     injection hn with hn
     have hp:=hbse p (Wp hb)
     rw [<- hn]
     split
     ·rw [W5]
      &⟨hp.1,Yf _ _,λx hx y hy=>?_⟩
      rw [Wo.1 hy,ht.1]
      rcases X.S.tin with k | ⟨b,e⟩
      ·~absurd k.1 h0
      ·rw [e];~X.H.sq x (hp.2 x hx).1
     ·~hp.1
   ·~(hbse q hqm).1
 ·rw [b2]
  rcases X.mem.1 hx with k | ⟨rfl,hw⟩
  ·have:=hsqK x k
   split <;> omega
  ·rw [ht.1]
   by_cases h0:T0∈BL.flatten
   ·rw [if_pos (.inl h0)];~X.H.sq T0 h0
   ·rw [if_neg (by rintro (k | k);~h0 k;~k hw)]
    rcases X.S.tin with k | ⟨b,e⟩
    ·~absurd k.1 h0
    ·rw [e];show h.seq<h.seq+1;omega
 ·rw [b2]
  have:=X.H.sq0
  split <;> omega
 ·have h1:=X.H.resv hc
  have h2:=X.free
  have h3:=X.len3.2
  omega
end
theorem copy3_eq(h:Hp):Jb h=(QH h).map λr=>(r,h.space.ws,h.space.fs):=by
 unfold Jb QH
 simp only [map_ite',Uv,Function.comp_def,Wu,Option.map_none]
theorem do3_eq(h:Hp)(l:List Inc):Qap h l=(Qaa h l).map λr=>(r.1,r.2.1,r.2.2,h.space.ws,h.space.fs):=by
 unfold Qap Qaa
 simp only [copy3_eq,U4,Uv,Function.comp_def,map_ite',Wu,Option.map_none,if_true]
theorem rnd3_eq(h:Hp)(n:Int):ZR h n=Zx h n:=by
 unfold ZR Zx
 simp only [do3_eq,U4,Function.comp_def,if_true]
theorem full2_eq(h:Hp):Xi h=XG h:=by
 unfold Xi XG
 rw [rnd3_eq]
theorem for2_eq(h:Hp)(n:Int):Zy h n=Qb8 h n:=by
 unfold Zy Qb8
 rw [rnd3_eq]
def usdF(s:Sp):Int:=(s.fs.length:Int)-(Qk s.fs).length
def GrnP(c:Cfg)(s:Sp)(B:List (List Inc))(i:Inc)(n:Int):Prop :=
 clN s (i.words+n)-clN s i.words=0\/(usdF s+(clN s (i.words+n)-clN s i.words)<=s.fs.length/\(CplP c->2*(usdF s+(clN s (i.words+n)-clN s i.words))<=s.fs.length) /\
  (¬ CplP c->max (largF s B.flatten) (clN s i.words+(clN s (i.words+n)-clN s i.words))<=s.fs.length-(usdF s+(clN s (i.words+n)-clN s i.words))))
theorem larg_rng{s:Sp}(hs:Qco s.sh):∀ (l:List Inc) (n:Int),0<=n/\n<=1099511627776->0<=l.foldl (λ(n:Int) x=>max n (clN s x.words)) n/\l.foldl (λ(n:Int) x=>max n (clN s x.words)) n<=1099511627776
 | [],n,h=>h
 | x :: l,n,h=>by
  rw [V2]
  have:=Qdt hs x.words
  ~larg_rng hs l _ Oo
theorem grants_c{c:Cfg}(hc:Qeg c){s:Sp}(hs:Qc4 s){B:List (List Inc)}(hB:BSz B)(hw:WdIn B){i:Inc}(hi:0<=i.words/\i.words<=16384){n:Int}(hn:1<=n/\n<=1000):Jc c s B i n=some (bP (GrnP c s B i n)):=by
 have h64:=hs.hi
 have c1:=Qdt hs.sh (i.words+n)
 have c2:=Qdt hs.sh i.words
 have hfl:=free_le s.fs
 &Gd.eq ?_
 unfold Jc
 &.call (extra_c hs.sh (by unfold I64;omega) (by unfold I64;omega)) ?_
 &.ite (λh=>.t (.inl h)) λh0=>?_
 &.call (used_c Oo) ?_
 have hu:0<=usdF s/\usdF s<=64:=by unfold usdF;omega
 show Gd _ (if (s.fs.length:Int)<w64 (usdF s+_) then _ else _)
 rw [Qd (n:=usdF s+(clN s (i.words+n)-clN s i.words)) Oo]
 &.ite (λh=>.f λk=>?_) λh1=>?_
 ·rcases k with k | k
  ·~h0 k
  ·omega
 &.call (Qc2 hc) ?_
 &.ite (λh=>?_) λh=>?_
 ·have h:=QE.1 h
  &.b (p:=GrnP c s B i n) ?_
  rw [show (w64 (2*w64 ((s.fs.length:Int)-(Qk s.fs).length+(clN s (i.words+n)-clN s i.words))):Int)=2*(usdF s+(clN s (i.words+n)-clN s i.words)) from by
   rw [show (s.fs.length:Int)-(Qk s.fs).length=usdF s from rfl,Qd (n:=usdF s+(clN s (i.words+n)-clN s i.words)) Oo,Qd Oo],decide_eq_true_iff]
  ~⟨λk=>.inr ⟨Oo,λ_=>k,λq=>absurd h q⟩,λk=>k.elim (λk=>absurd k h0) λk=>k.2.1 h⟩
 ·have h:¬ CplP c:=λk=>h (J5 k)
  have hl:=larg_rng hs.sh B.flatten 0 Oo
  &.call (largest_c hs.sh hB hw) (.call (Qbz hs.sh (by unfold I64;omega)) (.b (p:=GrnP c s B i n) ?_))
  rw [show (w64 ((s.fs.length:Int)-w64 ((s.fs.length:Int)-(Qk s.fs).length+(clN s (i.words+n)-clN s i.words))):Int)=s.fs.length-(usdF s+(clN s (i.words+n)-clN s i.words)) from by
   rw [show (s.fs.length:Int)-(Qk s.fs).length=usdF s from rfl,Qd (n:=usdF s+(clN s (i.words+n)-clN s i.words)) Oo,Qd Oo],Qd (n:=clN s i.words+(clN s (i.words+n)-clN s i.words)) Oo,decide_eq_true_iff]
  ~⟨λk=>.inr ⟨Oo,λq=>absurd q h,λ_=>k⟩,λk=>k.elim (λk=>absurd k h0) λk=>k.2.2 h⟩
noncomputable def candR(h:Hp):Option (Int×Inc) :=
 let nw:Option (Int×Inc):=if ((h.config.rules[0]?).map Rul.limit).getD 0=0\/((((h.belts[0]?).getD []).length:Nat):Int)<((h.config.rules[0]?).map Rul.limit).getD 0 then some (2,⟨h.seq,0,-1,-1,0⟩) else none
 match yngR h.belts 0 with
 | none=>nw
 | some y=>if capV h.config 0 h.space.fs.length=0\/y.words<w64 (capV h.config 0 h.space.fs.length*(szS h.space:Int)) then some (1,y) else nw
noncomputable def Xq(h:Hp)(n:Int):Int×Inc:=open Classical in
 match candR h with
 | none=>(3,inc0)
 | some (k,i)=>if GrnP h.config h.space h.belts i n then (k,i) else (3,inc0)
section
variable{h:Hp}{BL:List (List Itm)}
theorem QG.b0(H:QG h BL):0<h.belts.length/\0<h.config.rules.length:=by
 have:=H.cfg.len
 have:=H.bn
 rw [H.bl,Wb]
 omega
theorem candR_in(H:QG h BL){k:Int}{i:Inc}(hc:candR h=some (k,i)):(k=1/\yngR h.belts 0=some i/\0<=i.words/\i.words<=16384)\/(k=2/\i=⟨h.seq,0,-1,-1,0⟩):=by
 unfold candR at hc
 dsimp only at hc
 have hnew:∀ {p:Prop} [Decidable p],(if p then some ((2:Int),(⟨h.seq,0,-1,-1,0⟩:Inc)) else none)=some (k,i)->k=2/\i=⟨h.seq,0,-1,-1,0⟩:=λ{p} _ e=>by
  split at e
  ·injection e with e;injection e with e1 e2;~⟨e1.symm,e2.symm⟩
  ·cases e
 cases hy:yngR h.belts 0 with
 | none=>rw [hy] at hc;~.inr (hnew hc)
 | some y =>
  rw [hy] at hc
  dsimp only at hc
  split at hc
  ·injection hc with hc
   injection hc with e1 e2
   subst e1;subst e2
   ð⟨x,hx,e,_⟩:=H.yng hy
   have:=(H.sp.each x hx).inc.wd
   have:=Z7 H.sp.ok
   rw [<- e]
   ~.inl ⟨rfl,rfl,Oo,Oo⟩
  ·~.inr (hnew hc)
theorem plan_c(H:QG h BL){n:Int}(hn:1<=n/\n<=1000):QL h.config h.space h.belts h.seq n=some (Xq h n):=by
 ð⟨hb0,hr0⟩:=H.b0
 have hl:=H.bsz.2 _ (Wc hb0)
 have h64:=H.sp.ok.shp.hi
 have h2:=H.sp.ok.shp.lo
 &Gd.eq ?_
 unfold QL
 &.call (cap_c H.cfg ⟨Oo,Oo⟩ ⟨Oo,Oo⟩) (.call (QcU H.bsz 0) ?_)
 have er:((h.config.rules[0]?).map Rul.limit).getD 0=h.config.rules[0].limit:=by rw [Wa hr0];rfl
 have eb:(((h.belts[0]?).getD []).length:Nat)=h.belts[0].length:=by rw [Wa hb0];rfl
 have hnw:Gd (λz:(Int×Inc) ⊕ (Int×Inc)=>(∃ p,z = .inl p/\(if ((h.config.rules[0]?).map Rul.limit).getD 0=0\/((((h.belts[0]?).getD []).length:Nat):Int)<((h.config.rules[0]?).map Rul.limit).getD 0 then some ((2:Int),(⟨h.seq,0,-1,-1,0⟩:Inc)) else none)=some p)\/(z = .inr (3,inc0)/\(if ((h.config.rules[0]?).map Rul.limit).getD 0=0\/((((h.belts[0]?).getD []).length:Nat):Int)<((h.config.rules[0]?).map Rul.limit).getD 0 then some ((2:Int),(⟨h.seq,0,-1,-1,0⟩:Inc)) else none)=none))
   ((at_ h.config.rules 0).bind λv8=>if v8.limit=0 then (some (.inl ((2,Inc.mk h.seq 0 (-1) (-1) 0)))) else (at_ h.belts 0).bind λv10=>if v8.limit<=(v10.length:Int) then (some (.inr ((3,Inc.mk 0 0 0 0 0)))) else some (.inl ((2,Inc.mk h.seq 0 (-1) (-1) 0)))):=by
  rw [er,eb]
  &.at0 hr0 (.ite (λk=>.some (.inl ⟨_,rfl,if_pos (.inl k)⟩)) λk=>.at0 hb0 (.ite (λk2=>.some (.inr ⟨rfl,if_neg Oo⟩)) λk2=>.some (.inl ⟨_,rfl,if_pos (.inr Oo)⟩)))
 &Gd.bndR (P:=λz=>(∃ p,z = .inl p/\candR h=some p)\/(z = .inr (3,inc0)/\candR h=none)) ?_ (λp hP=>?_) (λr hP=>?_)
 ·unfold candR
  dsimp only
  cases hy:yngR h.belts 0 with
  | none=>~.neg (by simp [optI]) hnw
  | some y =>
   &.pos rfl (.call (open_c H.sp.ok.shp.sh _ _) ?_)
   dsimp only [optI]
   &.ite (λho=>.some (.inl ⟨_,rfl,if_pos ?_⟩)) λho=>?_
   ·rw [VK,decide_eq_true_iff] at ho
    ~ho.imp id λq=>of_decide_eq_true q
   ·rw [if_neg (λk=>ho (by rw [VK,decide_eq_true_iff];~k.imp id λq=>decide_eq_true q))]
    ~hnw
 ·rcases hP with ⟨q,hq,hc⟩ | ⟨hq,_⟩
  ·injection hq with hq
   subst hq
   ð⟨k,i⟩:=p
   unfold Xq
   rw [hc]
   dsimp only
   have hiw:0<=i.words/\i.words<=16384:=by
    rcases candR_in H hc with k | ⟨_,k⟩
    ·~k.2.2
    ·rw [k];show (0:Int)<=0/\(0:Int)<=16384;omega
   &.call (grants_c H.cfg H.sp.ok.shp H.bsz H.wd hiw hn) ?_
   &.ite (λhg=>.some (by rw [if_pos (QE.1 hg)])) λhg=>.some (by rw [if_neg λq=>hg (J5 q)])
  ·cases hq
 ·rcases hP with ⟨q,hq,_⟩ | ⟨hq,hc⟩
  ·cases hq
  ·injection hq with hq
   rw [hq]
   unfold Xq
   rw [hc]
theorem wants_c(H:QG h BL){n:Int}(hn:1<=n/\n<=1000):Zw h n=some (decide ((Xq h n).1=3)):=by
 unfold Zw
 rw [plan_c H hn]
 rfl
def ovrL(h:Hp):List Nat:=(List.range h.belts.length).filter λb=>match h.config.rules[b]?,h.belts[b]? with
 | some r,some q=>decide (¬ r.limit=0/\r.limit<(q.length:Int))
 | _,_=>false
theorem over_c(H:QG h BL):Jv h.config h.belts=some ((ovrL h).map λ(b:Nat)=>(b:Int)):=by
 have hl:=H.cfg.len
 have hbn:h.belts.length=h.config.rules.length:=by rw [H.bl,Wb,H.bn]
 &Gd.eq ?_
 unfold Jv
 &.call (check_c H.cfg) (.pos rfl (.pos Oo ?_))
 &Gd.bind (P:=λb=>b=(ovrL h).map λ(b:Nat)=>(b:Int)) ?_ λb hb=>.some hb
 &Gd.for h.belts.length (λ(t:List Int) i=>(t,i)) (λi t=>t.length<=i/\t=((List.range i).filter λb=>match h.config.rules[b]?,h.belts[b]? with
  | some r,some q=>decide (¬ r.limit=0/\r.limit<(q.length:Int))
  | _,_=>false).map λ(b:Nat)=>(b:Int)) [] rfl (λ_ _=>rfl) Oo ⟨Os,rfl⟩ (λi hi t ht=>?_) (λt ht=>ht.2)
 have hr:i<h.config.rules.length:=by omega
 have ht1:=ht.1
 rw [Ua,VA,WH,<- ht.2]
 &.atN hi (.atN hr ?_)
 &.ite (λk=>.some (.inl ⟨t,rfl,Oo,?_⟩)) λk=>.ite (λk2=>.pos (X9 (l:=t) Oo Oo) (.some (.inl ⟨t++[(i:Int)],rfl,by rw [We,WK];omega,?_⟩))) λk2=>.some (.inl ⟨t,rfl,Oo,?_⟩)
 ·simp [Wa hi,Wa hr,k]
 ·simp [Wa hi,Wa hr,k,k2]
 ·have:¬ h.config.rules[i].limit<(h.belts[i].length:Int):=by omega
  simp [Wa hi,Wa hr,k,this]
end
def advK(B:List (List Inc))(last:Int):Nat->Cur->Cur
 | 0,k=>k
 | n+1,k=>if k.belt<last/\((B[k.belt.toNat]?).getD []).length=0 then advK B last n ⟨k.belt+1,false,0⟩ else k
def begK(B:List (List Inc))(last:Int)(k:Cur):Cur:=if k.belt=last/\¬ k.begun=true then ⟨k.belt,true,match yngR B last with | none=>-1 | some y=>y.seq⟩ else k
def Qdu(B:List (List Inc))(last:Int)(k:Cur):List Inc:=((B[k.belt.toNat]?).getD []).filter λi=>decide (k.belt<last\/i.seq<=k.last)
def takF(s:Sp)(batch:Int):Int->Nat->List Inc->List Inc
 | free,n,[]=>[]
 | free,n,i :: l=>if free-clN s i.words<0\/(¬ batch=0/\(n:Int)=batch) then [] else i :: takF s batch (free-clN s i.words) (n+1) l
def Qc3(h:Hp)(k:Cur):List Inc×Cur×Bool :=
 let last:Int:=(h.belts.length:Int)-1
 let k1:=begK h.belts last (advK h.belts last 4 k)
 let c:=Qdu h.belts last k1
 if c.length=0 then ([],k1,true) else (takF h.space (((h.config.rules[k1.belt.toNat]?).map Rul.batch).getD 0) (Qk h.space.fs).length 0 c,k1,false)
theorem advK_rng(B:List (List Inc))(last:Int):∀ (n:Nat) (k:Cur),k.belt<=last->k.belt<=(advK B last n k).belt/\(advK B last n k).belt<=last
 | 0,k,h=>⟨Vo _,h⟩
 | n+1,k,h=>by
  unfold advK
  split
  ·rename_i hc
   have:=advK_rng B last n ⟨k.belt+1,false,0⟩ (by dsimp only;omega)
   dsimp only at this
   omega
  ·~⟨Vo _,h⟩
theorem takF_sum(s:Sp)(hs:Qco s.sh)(batch:Int):∀ (l:List Inc) (free:Int) (n:Nat),0<=free->sumI s (takF s batch free n l)<=free
 | [],free,n,h=>h
 | i :: l,free,n,h=>by
  unfold takF
  split
  ·~h
  ·rename_i hc
   have hc1:¬ free-clN s i.words<0:=λk=>hc (.inl k)
   have:=takF_sum s hs batch l (free-clN s i.words) (n+1) Oo
   have e:∀ (l:List Inc) (a:Int),l.foldl (λ(n:Int) x=>n+clN s x.words) a=a+l.foldl (λ(n:Int) x=>n+clN s x.words) 0:=by
    intro l
    induction l with
    | nil=>intro a;simp
    | cons x l ih=>intro a;rw [V2,V2,ih (a+clN s x.words),ih (0+clN s x.words)];omega
   unfold sumI at this ⊢
   rw [V2,e]
   omega
theorem takF_pre(s:Sp)(batch:Int):∀ (l:List Inc) (free:Int) (n:Nat),∃ m,takF s batch free n l=l.take m
 | [],free,n=>⟨0,rfl⟩
 | i :: l,free,n=>by
  unfold takF
  split
  ·~⟨0,rfl⟩
  ·ð⟨m,e⟩:=takF_pre s batch l (free-clN s i.words) (n+1)
   ~⟨m+1,by rw [e];rfl⟩
section
variable{h:Hp}{BL:List (List Itm)}
set_option maxHeartbeats 1000000 in
theorem choose_c(H:QG h BL){k:Cur}(hk:0<=k.belt/\k.belt<h.belts.length):Xk h.config h.space h.belts k=some (Qc3 h k):=by
 have hB:=H.bsz
 have hl:=H.cfg.len
 have h64:=H.sp.ok.shp.hi
 have hbn:h.belts.length=h.config.rules.length:=by rw [H.bl,Wb,H.bn]
 have hfl:=free_le h.space.fs
 have el:w64 ((h.belts.length:Int)-1)=(h.belts.length:Int)-1:=Qd Oo
 have hget:∀ b:Int,0<=b->b<h.belts.length->∃ hb:b.toNat<h.belts.length,(h.belts[b.toNat]?).getD []=h.belts[b.toNat]/\h.belts[b.toNat].length<=10000:=λb h0 h1=>by
  have hb:b.toNat<h.belts.length:=by omega
  ~⟨hb,by rw [Wa hb];rfl,hB.2 _ (Wc hb)⟩
 &Gd.eq ?_
 unfold Xk Qc3
 dsimp only
 rw [el]
 generalize hlast:(h.belts.length:Int)-1=last
 have hr0:=advK_rng h.belts last 4 k Oo
 &Gd.bind (P:=λb=>b=advK h.belts last 4 k) ?_ λb hb=>?_
 ·&Gd.loop (λx:Cur=>∃ n,advK h.belts last 4 k=advK h.belts last n x/\0<=x.belt/\x.belt<=last/\last<x.belt+n) _ (λx=>(last-x.belt).toNat) ⟨4,rfl,Oo,Oo,Oo⟩ ?_
  rintro x ⟨n,hx,x0,x1,x2⟩
  &.ite (λhlt=>?_) λhlt=>.out ?_
  ·ð⟨hb,e1,e2⟩:=hget x.belt x0 Oo
   &.at x0 hb ?_
   obtain ⟨m,rfl⟩:∃ m,n=m+1:=⟨n-1,Oo⟩
   &.ite (λhe=>?_) λhe=>.out ?_
   ·have e3:w64 (x.belt+1)=x.belt+1:=Qd Oo
    rw [e3]
    &.go ⟨m,?_,by dsimp only;omega,by dsimp only;omega,by dsimp only;omega⟩ (by dsimp only;omega)
    rw [hx]
    conv=>lhs;unfold advK
    rw [if_pos ⟨hlt,by rw [e1];omega⟩]
   ·rw [hx]
    conv=>rhs;unfold advK
    rw [if_neg]
    rintro ⟨_,k2⟩
    rw [e1] at k2
    ~he Oo
  ·rw [hx]
   cases n with
   | zero=>rfl
   | succ m =>
    conv=>rhs;unfold advK
    rw [if_neg λk=>hlt k.1]
 subst hb
 generalize advK h.belts last 4 k=k0 at hr0 ⊢
 &Gd.bind (P:=λb=>b=begK h.belts last k0) ?_ λb hb=>?_
 ·unfold begK
  &.ite (λh1=>?_) λh1=>.some (by rw [if_neg λk=>h1 k.1])
  &.ite (λh2=>.some (by rw [if_neg λk=>k.2 h2])) λh2=>?_
  rw [if_pos ⟨h1,h2⟩]
  &.call (QcU hB last) ?_
  cases yngR h.belts last with
  | none=>~.neg (by simp [optI]) (.some rfl)
  | some y=>~.pos rfl (.some rfl)
 subst hb
 have hbb:(begK h.belts last k0).belt=k0.belt:=by unfold begK;split <;> rfl
 have hr1:k.belt<=(begK h.belts last k0).belt/\(begK h.belts last k0).belt<=last:=by rw [hbb];~hr0
 generalize begK h.belts last k0=k1 at hr1 ⊢
 ð⟨hb,e1,e2⟩:=hget k1.belt Oo Oo
 &Gd.bind (P:=λb=>b=Qdu h.belts last k1) ?_ λb hb2=>?_
 ·&.at Oo hb ?_
  unfold Qdu
  rw [e1]
  &Gd.for h.belts[k1.belt.toNat].length (λ(t:List Inc) i=>(t,i)) (λi t=>t.length<=i/\t=(h.belts[k1.belt.toNat].take i).filter λi=>decide (k1.belt<last\/i.seq<=k1.last)) [] rfl (λ_ _=>rfl) Oo ⟨Os,rfl⟩ (λi hi t ht=>?_) (λt ht=>by have:=ht.2;rw [WR] at this;~this)
  have ht1:=ht.1
  rw [QI hi,VA,<- ht.2]
  &.atN hi ?_
  &.ite (λh1=>.pos (X9 (l:=t) Oo Oo) (.some (.inl ⟨t++[h.belts[k1.belt.toNat][i]],rfl,by rw [We,WK];omega,?_⟩))) λh1=>.ite (λh2=>.pos (X9 (l:=t) Oo Oo) (.some (.inl ⟨t++[h.belts[k1.belt.toNat][i]],rfl,by rw [We,WK];omega,?_⟩))) λh2=>.some (.inl ⟨t,rfl,Oo,?_⟩)
  ·simp [h1]
  ·have h2:h.belts[k1.belt.toNat][i].seq<=k1.last:=h2
   simp [h2]
  ·have h2:¬ h.belts[k1.belt.toNat][i].seq<=k1.last:=h2
   simp [h1,h2]
 subst hb2
 have hcl:(Qdu h.belts last k1).length<=10000:=by
  unfold Qdu
  rw [e1]
  have:=W8 (λi:Inc=>decide (k1.belt<last\/i.seq<=k1.last)) h.belts[k1.belt.toNat]
  omega
 have hcm:∀ i∈Qdu h.belts last k1,0<=i.words/\i.words<=16384:=λi hi=>by
  unfold Qdu at hi
  rw [e1] at hi
  ~H.wd _ (Wc hb) i (WI.1 hi).1
 generalize Qdu h.belts last k1=c at hcl hcm ⊢
 &.ite (λh0=>.some (by rw [if_pos (show c.length=0 by omega)])) λh0=>?_
 rw [if_neg (show ¬ c.length=0 by omega)]
 &.call (free_ok h.space Oo) ?_
 have hrb:k1.belt.toNat<h.config.rules.length:=by omega
 &.at Oo hrb ?_
 rw [Wa hrb,Wu,WE,Wb]
 generalize h.config.rules[k1.belt.toNat].batch=bt
 &Gd.bind (P:=λb=>b=takF h.space bt (Qk h.space.fs).length 0 c) ?_ λb hb=>.some (by rw [hb])
 &Gd.for c.length (λ(t:List Inc×Int) i=>(t.1,t.2,i)) (λi t=>t.1.length=i/\(0<=t.2/\t.2<=64)/\takF h.space bt (Qk h.space.fs).length 0 c=t.1++takF h.space bt t.2 i (c.drop i)) ([],((Qk h.space.fs).length:Int)) rfl (λ_ _=>rfl) Oo ⟨rfl,⟨by dsimp only;omega,by dsimp only;omega⟩,Os⟩ (λi hi t ht=>?_) (λt ht=>?_)
 ·ð⟨t1,t2,t3⟩:=ht
  have hcw:=hcm _ (Wc hi)
  have hcr:=Qdt H.sp.ok.shp.sh c[i].words
  rw [Vk hi] at t3
  &.atN hi (.call (Qbz H.sp.ok.shp.sh (by unfold I64;omega)) ?_)
  rw [show w64 ((t.1,t.2,(i:Int)).2.1-clN h.space c[i].words)=t.2-clN h.space c[i].words from Qd (by dsimp only;omega)]
  have stop:(t.2-clN h.space c[i].words<0\/(¬ bt=0/\(i:Int)=bt))->t.1=takF h.space bt (Qk h.space.fs).length 0 c:=λhs=>by
   rw [t3]
   conv=>rhs;unfold takF
   rw [if_pos hs,Vl]
  have goon:¬ (t.2-clN h.space c[i].words<0\/(¬ bt=0/\(i:Int)=bt))->(t.1++[c[i]]).length=i+1/\(0<=t.2-clN h.space c[i].words/\t.2-clN h.space c[i].words<=64)/\takF h.space bt (Qk h.space.fs).length 0 c=t.1++[c[i]]++takF h.space bt (t.2-clN h.space c[i].words) (i+1) (c.drop (i+1)):=λhs=>by
   &⟨by rw [We,WK,t1],⟨Oo,Oo⟩,?_⟩
   rw [t3]
   conv=>lhs;unfold takF
   rw [if_neg hs,WP]
   rfl
  &.ite (λh1=>.some (.inr ⟨_,rfl,stop (.inl h1)⟩)) λh1=>?_
  &.ite (λh2=>.pos (X9 (l:=t.1) Oo Oo) (.some (.inl ⟨(t.1++[c[i]],t.2-clN h.space c[i].words),rfl,goon (by rintro (q | q);~h1 q;~q.1 h2)⟩))) λh2=>?_
  &.ite (λh3=>.some (.inr ⟨_,rfl,stop (.inr ⟨h2,by rw [<- t1];~h3⟩)⟩)) λh3=>.pos (X9 (l:=t.1) Oo Oo) (.some (.inl ⟨(t.1++[c[i]],t.2-clN h.space c[i].words),rfl,goon (by rintro (q | q);~h1 q;~h3 (by rw [<- q.2,<- t1])) ⟩))
 ·ð⟨t1,t2,t3⟩:=ht
  rw [List.drop_length] at t3
  show t.1=_
  rw [t3]
  conv=>rhs;unfold takF
  rw [Vl]
end
structure Qef(h:Hp)(BL:List (List Itm))(k:Cur):Prop where
 lo:0<=k.belt
 hi:k.belt<BL.length
 low:∀ b (hb:b<BL.length),(b:Int)<k.belt->BL[b]=[]
 beg:k.begun=true->k.belt=(BL.length:Int)-1/\k.last<h.seq
theorem find_uniq{l:List Inc}(hd:l.Pairwise λx y=>x.seq≠y.seq){x:Inc}(hx:x∈l):l.find? (λy=>decide (y.seq=x.seq))=some x:=by
 ð⟨i,hi,rfl⟩:=WN.1 hx
 rw [Yn]
 &⟨Os,i,hi,rfl,λj hj=>?_⟩
 have:=Wy.1 hd j i Oo hi hj
 simpa using this
theorem filter_asc{L:Int}:∀ {q:List Inc},q.Pairwise (λx y=>x.seq<y.seq)->∃ m,(q.filter λi=>decide (i.seq<=L))=q.take m
 | [],_=>⟨0,rfl⟩
 | x :: q,h=>by
  have h1:=Vs.1 h
  by_cases hc:x.seq<=L
  ·ð⟨m,e⟩:=filter_asc (L:=L) h1.2
   ~⟨m+1,by rw [VM,if_pos (by simpa using hc),e];rfl⟩
  ·&⟨0,?_⟩
   rw [Y4,YP]
   intro y hy
   rcases Wt.1 hy with rfl | hy
   ·simpa using hc
   ·have:=h1.1 y hy
    simp;omega
theorem flat_low{α:Type}:∀ {B:List (List α)} {b:Nat} (hb:b<B.length),(∀ a (ha:a<B.length),a<b->B[a]=[])->B.flatten=B[b]++(B.drop (b+1)).flatten
 | q :: B,0,hb,_=>rfl
 | q :: B,b+1,hb,h=>by
  have h0:q=[]:=h 0 Os Oo
  have:=flat_low (B:=B) (b:=b) (by simpa using hb) λa ha hab=>h (a+1) (by simpa using ha) Oo
  rw [Vi,h0,VV,this]
  rfl
section
variable{h:Hp}{BL:List (List Itm)}
theorem QG.blen(H:QG h BL):h.belts.length=BL.length:=by rw [H.bl,Wb]
theorem adv_ok(H:QG h BL):∀ (n:Nat) {k:Cur},Qef h BL k->Qef h BL (advK h.belts ((h.belts.length:Int)-1) n k)
 | 0,k,hk=>hk
 | n+1,k,hk=>by
  unfold advK
  split
  ·rename_i hc
   have hl:=H.blen
   have h0:=hk.lo
   &adv_ok H n ⟨by dsimp only;omega,by dsimp only;omega,λb hb hlt=>?_,λhb=>by cases hb⟩
   dsimp only at hlt
   rcases UZ (b:Int) k.belt with c | c
   ·~hk.low b hb c
   ·have e:k.belt.toNat=b:=by omega
    have:=hc.2
    rw [e,H.bl_at hb,WE,Wb] at this
    ~Uk this
  ·~hk
theorem beg_ok(H:QG h BL){k:Cur}(hk:Qef h BL k):Qef h BL (begK h.belts ((h.belts.length:Int)-1) k)/\((begK h.belts ((h.belts.length:Int)-1) k).belt=(h.belts.length:Int)-1->(begK h.belts ((h.belts.length:Int)-1) k).begun=true)/\(k.begun=true->begK h.belts ((h.belts.length:Int)-1) k=k):=by
 have hl:=H.blen
 unfold begK
 split
 ·rename_i hc
  &⟨⟨hk.lo,hk.hi,hk.low,λ_=>⟨by dsimp only;omega,?_⟩⟩,λ_=>rfl,λhb=>absurd hb hc.2⟩
  cases hy:yngR h.belts ((h.belts.length:Int)-1) with
  | none=>have:=H.sq0;show (-1:Int)<h.seq;omega
  | some y =>
   ð⟨x,hx,e,_⟩:=H.yng hy
   show y.seq<h.seq
   rw [<- e]
   ~H.sq x hx
 ·rename_i hc
  &⟨hk,λe=>?_,λ_=>rfl⟩
  apply Classical.byContradiction
  intro hb
  ~hc ⟨e,hb⟩
structure ChsOk(h:Hp)(BL:List (List Itm))(k:Cur)(l:List Inc)(k':Cur):Prop where
 tgt:TgtP h.belts l
 sum:sumI h.space l<=(Qk h.space.fs).length
 at_:∃ b:Nat,∃ hb:b<BL.length,k'.belt=(b:Int)/\∀ i∈l,∃ x∈BL[b],x.i=i/\((b:Int)<(BL.length:Int)-1\/i.seq<=k'.last)
 len:l.length<=64
theorem chs_spec(H:QG h BL){k:Cur}(hk:Qef h BL k) :
  Qef h BL (Qc3 h k).2.1/\k.belt<=(Qc3 h k).2.1.belt/\((Qc3 h k).2.1.belt=(BL.length:Int)-1->(Qc3 h k).2.1.begun=true)/\(k.begun=true->(Qc3 h k).2.1=k)/\((Qc3 h k).1.length≠0->(Qc3 h k).2.2=false/\ChsOk h BL k (Qc3 h k).1 (Qc3 h k).2.1):=by
 have hl:=H.blen
 have hkl:=hk.hi
 have a1:=adv_ok H 4 hk
 have ar:=advK_rng h.belts ((h.belts.length:Int)-1) 4 k Oo
 ð⟨b1,b2,b3⟩:=beg_ok H a1
 have bb:(begK h.belts ((h.belts.length:Int)-1) (advK h.belts ((h.belts.length:Int)-1) 4 k)).belt=(advK h.belts ((h.belts.length:Int)-1) 4 k).belt:=by unfold begK;split <;> rfl
 have ek:k.begun=true->advK h.belts ((h.belts.length:Int)-1) 4 k=k:=λhb=>by
  have:=(hk.beg hb).1
  unfold advK
  rw [if_neg]
  rintro ⟨c,_⟩
  omega
 have b3':k.begun=true->begK h.belts ((h.belts.length:Int)-1) (advK h.belts ((h.belts.length:Int)-1) 4 k)=k:=λhb=>by
  rw [ek hb] at b3 ⊢
  ~b3 hb
 unfold Qc3
 dsimp only
 generalize begK h.belts ((h.belts.length:Int)-1) (advK h.belts ((h.belts.length:Int)-1) 4 k)=k1 at b1 b2 bb b3' ⊢
 by_cases hc:(Qdu h.belts ((h.belts.length:Int)-1) k1).length=0
 ·rw [if_pos hc]
  ~⟨b1,by dsimp only;omega,λe=>b2 (by dsimp only at e;omega),b3',λk=>absurd rfl k⟩
 ·rw [if_neg hc]
  &⟨b1,by dsimp only;omega,λe=>b2 (by dsimp only at e;omega),b3',λhne=>⟨rfl,?_⟩⟩
  dsimp only at hne ⊢
  obtain ⟨b,hb⟩:∃ b:Nat,k1.belt=(b:Int):=⟨k1.belt.toNat,by have:=b1.lo;omega⟩
  have hbl:b<BL.length:=by have:=b1.hi;omega
  have ebn:k1.belt.toNat=b:=by omega
  have hgb:h.belts[k1.belt.toNat]?=some (BL[b].map Itm.i):=by rw [ebn];~H.bl_at hbl
  have hasc:(BL[b].map Itm.i).Pairwise λx y=>x.seq<y.seq:=by rw [Vc];~H.asc _ (Wc hbl)
  obtain ⟨m,hm⟩:∃ m,Qdu h.belts ((h.belts.length:Int)-1) k1=(BL[b].map Itm.i).take m:=by
   unfold Qdu
   rw [hgb,WE]
   by_cases hlt:k1.belt<(h.belts.length:Int)-1
   ·&⟨(BL[b].map Itm.i).length,?_⟩
    rw [WR,VY]
    intro i _;simp [hlt]
   ·ð⟨m,e⟩:=filter_asc (L:=k1.last) hasc
    &⟨m,?_⟩
    rw [<- e]
    &UT λi _=>?_
    simp [hlt]
  generalize hgt:takF h.space (((h.config.rules[k1.belt.toNat]?).map Rul.batch).getD 0) (Qk h.space.fs).length 0 (Qdu h.belts ((h.belts.length:Int)-1) k1)=l at hne
  ð⟨m',hm'⟩:=takF_pre h.space (((h.config.rules[k1.belt.toNat]?).map Rul.batch).getD 0) (Qdu h.belts ((h.belts.length:Int)-1) k1) (Qk h.space.fs).length 0
  rw [hgt] at hm'
  have hsum:=takF_sum h.space H.sp.ok.shp.sh (((h.config.rules[k1.belt.toNat]?).map Rul.batch).getD 0) (Qdu h.belts ((h.belts.length:Int)-1) k1) (Qk h.space.fs).length 0 Oo
  rw [hgt] at hsum
  have hlm:∀ i∈l,i∈BL[b].map Itm.i/\(k1.belt<(h.belts.length:Int)-1\/i.seq<=k1.last):=λi hi=>by
   rw [hm'] at hi
   have:=VU hi
   unfold Qdu at this
   rw [hgb,WE,WI] at this
   ~⟨this.1,by simpa using this.2⟩
  have hlow:h.belts.flatten=BL[b].map Itm.i++((BL.drop (b+1)).flatten).map Itm.i:=by
   rw [H.flat,flat_low hbl λa ha hab=>b1.low a ha Oo,WH]
  have hlen:l.length<=(BL[b].map Itm.i).length:=by
   rw [hm',hm,Wi,Wi];omega
  have hpre:l=h.belts.flatten.take l.length:=by
   rw [hlow,WU hlen]
   have:l=(BL[b].map Itm.i).take (min m' m):=by rw [hm',hm,Yg]
   have e2:l.length=min (min m' m) (BL[b].map Itm.i).length:=by rw [this,Wi]
   rw [e2]
   conv=>lhs;rw [this]
   rcases Nat.le_total (min m' m) (BL[b].map Itm.i).length with c | c
   ·rw [W7 c]
   ·rw [Nat.min_eq_right c,WF c,WR]
  have hfm:∀ i∈l,i∈h.belts.flatten:=λi hi=>by rw [hlow];~Wf _ (hlm i hi).1
  have hbelt:∀ i∈l,i.belt=(b:Int):=λi hi=>by
   ð⟨x,hx,rfl⟩:=Wk.1 (hlm i hi).1
   ~H.blt b hbl x hx
  have hl0:0<l.length:=by omega
  &⟨⟨hl0,λx hx=>⟨find_uniq H.dist (hfm x hx),by rw [hbelt x hx,hbelt _ (Wc hl0)]⟩,?_⟩,hsum,⟨b,hbl,hb,λi hi=>?_⟩,?_⟩
  ·have hnd:(l.map Inc.seq).Nodup:=by
    rw [Vh,Vc,hpre]
    ~H.dist.sublist (List.take_sublist _ _)
   &⟨?_,hnd,λs hs=>?_,λx hx=>?_⟩
   ·rw [Wb]
    have:=congrArg List.length hpre
    rw [Wi] at this
    omega
   ·rw [Wb,<- hpre]
    ð⟨i,hi,e⟩:=Wk.1 hs
    ~⟨i,hi,e⟩
   ·rw [Wb,<- hpre] at hx
    ~W0 hx
  ·ð⟨h1,h2⟩:=hlm i hi
   ð⟨x,hx,e⟩:=Wk.1 h1
   ~⟨x,hx,e,by rcases h2 with h2 | h2;~.inl Oo;~.inr h2⟩
  ·have:=Qcu (Wc hbl)
   have:=H.count
   rw [Wb] at hlen
   omega
end
def QeS:List Nat->Nat
 | []=>0
 | n :: l=>n*(l.length+1)+QeS l
theorem rndS_le:∀ {A' A:List Nat},A'.length=A.length->(∀ i (h:i<A'.length) (h':i<A.length),A'[i]<=A[i])->QeS A'<=QeS A
 | [],[],_,_=>Wl _
 | [],_ :: _,h,_=>by simp at h
 | _ :: _,[],h,_=>by simp at h
 | n' :: A',n :: A,hl,h=>by
  have h1:=rndS_le (A':=A') (A:=A) (by simpa using hl) λi h1 h2=>h (i+1) (by simpa using h1) (by simpa using h2)
  have h2:n'<=n:=h 0 Os Os
  have h3:A'.length=A.length:=by simpa using hl
  unfold QeS
  rw [h3]
  have:=WB (A.length+1) h2
  omega
theorem rndS_lt:∀ {A' A:List Nat} {b:Nat},A'.length=A.length->(∀ i (h:i<A'.length) (h':i<A.length),A'[i]<=A[i])->(∀ (h:b<A'.length) (h':b<A.length),A'[b]<A[b])->b<A.length->QeS A'+(A.length-b)<=QeS A
 | [],[],b,_,_,_,hb=>by simp at hb
 | [],_ :: _,_,h,_,_,_=>by simp at h
 | _ :: _,[],_,h,_,_,_=>by simp at h
 | n' :: A',n :: A,0,hl,h,hb,_=>by
  have h1:=rndS_le (A':=A') (A:=A) (by simpa using hl) λi h1 h2=>h (i+1) (by simpa using h1) (by simpa using h2)
  have h2:n' < n:=hb Os Os
  have h3:A'.length=A.length:=by simpa using hl
  have:=WB (A.length+1) (show n'+1<=n from h2)
  rw [Vv,UX] at this
  show n' * (A'.length+1)+QeS A'+(A.length+1-0)<=n*(A.length+1)+QeS A
  rw [h3]
  omega
 | n' :: A',n :: A,b+1,hl,h,hb,hbl=>by
  have h1:=rndS_lt (A':=A') (A:=A) (b:=b) (by simpa using hl) (λi h1 h2=>h (i+1) (by simpa using h1) (by simpa using h2)) (λh1 h2=>hb (by simpa using h1) (by simpa using h2)) (by simpa using hbl)
  have h2:n'<=n:=h 0 Os Os
  have h3:A'.length=A.length:=by simpa using hl
  have:=WB (A.length+1) h2
  show n' * (A'.length+1)+QeS A'+(A.length+1-(b+1))<=n*(A.length+1)+QeS A
  rw [h3]
  omega
theorem rndS_add:∀ {A:List Nat} {t:Nat},t<A.length->QeS (A.modify t (·+1))=QeS A+(A.length-t)
 | [],t,h=>by simp at h
 | n :: A,0,_=>by
  show (n+1)*(A.length+1)+QeS A=n*(A.length+1)+QeS A+(A.length+1-0)
  rw [Vv,UX]
  omega
 | n :: A,t+1,h=>by
  have:=rndS_add (A:=A) (t:=t) (by simpa using h)
  show n*((A.modify t (·+1)).length+1)+QeS (A.modify t (·+1))=n*(A.length+1)+QeS A+(A.length+1-(t+1))
  rw [Yb,this]
  omega
theorem rndS_last:∀ {A:List Nat} (h:A.length-1<A.length),A[A.length-1]<=QeS A
 | [],h=>by simp at h
 | [n],_=>by show n<=n*1+0;omega
 | n :: m :: A,_=>by
  have:=rndS_last (A:=m :: A) Os
  show (m :: A)[(m :: A).length-1]' Os<=n*((m :: A).length+1)+QeS (m :: A)
  omega
theorem Qgk{α:Type}{p q:α->Bool}:∀ {l:List α},(∃ x∈l,p x=true/\q x=false)->(l.filter q).countP p<l.countP p
 | [],h=>by ð⟨x,hx,_⟩:=h;cases hx
 | a :: l,h=>by
  have hle:∀ l:List α,(l.filter q).countP p<=l.countP p:=λl=>by
   induction l with
   | nil=>~Wl _
   | cons b l ih =>
    rw [VM]
    split
    ·rw [Uq,Uq];omega
    ·rw [Uq];omega
  ð⟨x,hx,h1,h2⟩:=h
  rcases Wt.1 hx with rfl | hx
  ·rw [VM,if_neg (by rw [h2];decide),Uq,if_pos h1]
   have:=hle l
   omega
  ·have:=Qgk (p:=p) (q:=q) ⟨x,hx,h1,h2⟩
   rw [VM]
   split
   ·rw [Uq,Uq];omega
   ·rw [Uq];omega
def nuR(BL:List (List Itm))(k:Cur):Nat:=if k.begun=true then ((BL[BL.length-1]?).getD []).countP λx=>decide (x.i.seq<=k.last) else QeS (BL.map List.length)
section
variable{h:Hp}{BL:List (List Itm)}{l:List Inc}{C K:List Itm}{T0 T:Itm}{M:List (Nat×Nat×Nat)}
theorem tgtI_belt(H:QG h BL)(hT:TgtP h.belts l){b:Nat}(hb:b<BL.length)(hbelt:(l[0]'hT.1).belt=(b:Int)):∃ hbl:b<h.config.rules.length,(tgtI h l).belt=h.config.rules[b].target:=by
 have hbl:b<h.config.rules.length:=by rw [<- H.bn];~hb
 have et:((h.config.rules[((l.head?).getD inc0).belt.toNat]?).map Rul.target).getD 0=h.config.rules[b].target:=by
  rw [Yi,Wa hT.1,WE,hbelt,Wd,Wa hbl]
  rfl
 &⟨hbl,?_⟩
 unfold tgtI
 rw [et]
 dsimp only
 cases hy:yngR h.belts h.config.rules[b].target with
 | none=>rfl
 | some y =>
  dsimp only
  split
  ·ð⟨x,hx,e,e2⟩:=H.yng hy
   ~e2
  ·rfl
theorem step_x(H:QG h BL){k k':Cur}(hc:ChsOk h BL k l k')(hq:h.seq<=4294967294):∃ C K T0 T M,StX h BL l C K T0 T M:=by
 ð⟨C,K,T0,S⟩:=step_parts H hc.tgt
 have hneed:sumF h.space C<=(Qk h.space.fs).length:=by rw [<- sumI_eq,S.ci];~hc.sum
 have hctx:=step_ctx H hc.tgt S Oo hneed (by have:=hc.len;omega)
 ð⟨_,T,M,R⟩:=step_run H hc.tgt S hctx
 ~⟨C,K,T0,T,M,H,hc.tgt,S,hctx,R,hq⟩
theorem bse_at{b:Nat}(hb:b<BL.length):(X8 BL C)[b]?=some (BL[b].filter λx=>bP (x∉C)):=by unfold X8;rw [Wh,Wa hb];rfl
theorem StX.blen(X:StX h BL l C K T0 T M):(Zt BL C T0 T).length=BL.length:=by
 unfold Zt
 split
 ·rw [Wb,JH]
 ·split
  ·rw [Yb,JH]
  ·~JH _ _
theorem StX.belt(X:StX h BL l C K T0 T M){b:Nat}(hb:b<BL.length):∃ q,(Zt BL C T0 T)[b]?=some q/\((q.map λx=>x.i.seq)=(BL[b].filter λx=>bP (x∉C)).map λx=>x.i.seq)\/∃ q,(Zt BL C T0 T)[b]?=some q/\q=(BL[b].filter λx=>bP (x∉C))++[T]/\T0.i.belt.toNat=b/\T.i.seq=h.seq:=by
 have ht:=X.tq
 unfold Zt
 split
 ·&⟨(BL[b].filter λx=>bP (x∉C)).map (Qdc T0 T),.inl ⟨by rw [Wh,bse_at hb];rfl,?_⟩⟩
  rw [W3]
  &WW λx _=>?_
  show (Qdc T0 T x).i.seq=x.i.seq
  unfold Qdc
  split
  ·rename_i e;rw [e,ht.1]
  ·rfl
 ·rename_i h0
  split
  ·by_cases e:T0.i.belt.toNat=b
   ·&⟨[],.inr ⟨_,by rw [W6,bse_at hb];simp [e],rfl,e,?_⟩⟩
    rw [ht.1]
    rcases X.S.tin with k | ⟨c,e2⟩
    ·~absurd k.1 h0
    ·rw [e2]
   ·~⟨BL[b].filter λx=>bP (x∉C),.inl ⟨by rw [W6,bse_at hb];simp [e],rfl⟩⟩
  ·~⟨_,.inl ⟨bse_at hb,rfl⟩⟩
theorem StX.lens(X:StX h BL l C K T0 T M):(Zt BL C T0 T).map List.length=(X8 BL C).map List.length\/(Zt BL C T0 T).map List.length=((X8 BL C).map List.length).modify T0.i.belt.toNat (·+1):=by
 unfold Zt
 split
 ·left
  rw [W3]
  &WW λq _=>?_
  show (q.map _).length=q.length
  rw [Wb]
 ·split
  ·right
   apply V7
   intro n
   rw [Wh,W6,W6,Wh]
   cases (X8 BL C)[n]? with
   | none=>rfl
   | some q =>
    simp only [Wu,VZ]
    split <;> simp
  ·~.inl rfl
theorem StX.seqs(X:StX h BL l C K T0 T M):h.seq<=(ZG h l).seq/\(ZG h l).seq<=h.seq+1:=by
 rw [X.belts.2]
 split <;> omega
theorem step_cur(X:StX h BL l C K T0 T M){k k':Cur}(hk:Qef h BL k)(hk':Qef h BL k')(hbeg:k'.belt=(BL.length:Int)-1->k'.begun=true)(hkk:k.begun=true->k'=k)(hc:ChsOk h BL k l k') :
  Qef (ZG h l) (Zt BL C T0 T) k'/\nuR (Zt BL C T0 T) k' < nuR BL k:=by
 ð⟨b,hb,eb,hl⟩:=hc.at_
 have hlen:=X.blen
 have hseq:=X.seqs
 have hbelt:(l[0]'hc.tgt.1).belt=(b:Int):=by
  ð⟨x,hx,e,_⟩:=hl _ (Wc hc.tgt.1)
  rw [<- e]
  ~X.H.blt b hb x hx
 ð⟨hbl,et⟩:=tgtI_belt X.H hc.tgt hb hbelt
 ð⟨_,_,_,q4,q5⟩:=X.H.cfg.rule b hbl
 have hbn:=X.H.bn
 have etT:T0.i.belt=h.config.rules[b].target:=by rw [X.S.ti];~et
 obtain ⟨c,hcC,hcb,hcs⟩:∃ c∈C,c∈BL[b]/\((b:Int)<(BL.length:Int)-1\/c.i.seq<=k'.last):=by
  have h0:=Wc hc.tgt.1
  ð⟨x,hx,e,hs⟩:=hl _ h0
  have h1:l[0]'hc.tgt.1∈C.map Itm.i:=by rw [X.S.ci];~h0
  ð⟨y,hy,e2⟩:=Wk.1 h1
  have:y=x:=X.H.uniq (X.S.cin y hy) (Vb.2 ⟨_,Wc hb,hx⟩) (by rw [e2,e])
  subst this
  ~⟨y,hy,hx,by rw [e2];~hs⟩
 have htb:b<=T0.i.belt.toNat/\(b+1<BL.length->b<T0.i.belt.toNat)/\T0.i.belt.toNat<BL.length:=by
  have:=X.b0
  rcases Ws (b+1) h.config.rules.length with cc | cc
  ·have:=q5 cc;rw [etT] at *;omega
  ·have:=(q4 Oo).2;rw [etT] at *;omega
 &⟨⟨hk'.lo,by rw [hlen];~hk'.hi,λa ha hlt=>?_,λhg=>?_⟩,?_⟩
 ·have ha':a<BL.length:=by rw [<- hlen];~ha
  have h0:=hk'.low a ha' hlt
  ð⟨q,k1 | ⟨q2,k1,_,k2,_⟩⟩:=X.belt ha'
  ·ð⟨e1,e2⟩:=k1
   rw [Wa ha] at e1
   injection e1 with e1
   rw [e1]
   rw [h0] at e2
   have:=congrArg List.length e2
   simp at this
   ~this
  ·omega
 ·have:=hk'.beg hg
  rw [hlen]
  ~⟨this.1,Oo⟩
 ·have hbase:∀ i (h1:i<((X8 BL C).map List.length).length) (h2:i<(BL.map List.length).length),((X8 BL C).map List.length)[i]<=(BL.map List.length)[i]:=λi h1 h2=>by
   rw [Wb] at h2
   rw [Va,Va]
   have e:=bse_at (C:=C) h2
   rw [Wa (by rw [JH];~h2)] at e
   injection e with e
   rw [e]
   ~W8 _ _
  have hbll:((X8 BL C).map List.length).length=(BL.map List.length).length:=by rw [Wb,Wb,JH]
  by_cases hg:k'.begun=true
  ·
   have hb1:=(hk'.beg hg).1
   have hbb:b=BL.length-1:=by omega
   have hcs':c.i.seq<=k'.last:=by rcases hcs with q | q;omega;~q
   have hcnt:(((Zt BL C T0 T)[(Zt BL C T0 T).length-1]?).getD []).countP (λx=>decide (x.i.seq<=k'.last))=(BL[b].filter λx=>bP (x∉C)).countP λx=>decide (x.i.seq<=k'.last):=by
    rw [hlen,<- hbb]
    have hmap:∀ q:List Itm,q.countP (λx=>decide (x.i.seq<=k'.last))=(q.map λx=>x.i.seq).countP λs=>decide (s<=k'.last):=λq=>by rw [List.countP_map];rfl
    ð⟨q,k1 | ⟨q2,k1,k2,k3,k4⟩⟩:=X.belt hb
    ·rw [k1.1,WE,hmap,k1.2,<- hmap]
    ·rw [k1,WE,k2,YA]
     have:=(hk'.beg hg).2
     rw [show [T].countP (λx=>decide (x.i.seq<=k'.last))=0 from by rw [List.countP_eq_zero];intro x hx;rw [Wo.1 hx,k4];simp;omega,VW]
   have hlt:(BL[b].filter λx=>bP (x∉C)).countP (λx=>decide (x.i.seq<=k'.last))<BL[b].countP λx=>decide (x.i.seq<=k'.last):=Qgk ⟨c,hcb,by simpa using hcs',Qdd λk=>k hcC⟩
   have e1:nuR (Zt BL C T0 T) k'=(BL[b].filter λx=>bP (x∉C)).countP λx=>decide (x.i.seq<=k'.last):=by unfold nuR;rw [if_pos hg];~hcnt
   rw [e1]
   by_cases hgk:k.begun=true
   ·have:=hkk hgk
    subst this
    unfold nuR
    rw [if_pos hgk,<- hbb,Wa hb]
    ~hlt
   ·have e2:nuR BL k=QeS (BL.map List.length):=by unfold nuR;rw [if_neg hgk]
    have h3:=rndS_last (A:=BL.map List.length) (by rw [Wb];omega)
    rw [Va] at h3
    have h4:BL[b].countP (λx=>decide (x.i.seq<=k'.last))<=BL[b].length:=YZ
    have h5:BL[(BL.map List.length).length-1]'(by rw [Wb];omega)=BL[b]:=by congr 1;rw [Wb];omega
    rw [h5] at h3
    omega
  ·have hgk:¬ k.begun=true:=λq=>hg (by rw [hkk q];~q)
   have hb1:b+1<BL.length:=by
    have:=hk'.hi
    rcases Ws (b+1) BL.length with q | q
    ·~q
    ·~absurd (hbeg Oo) hg
   unfold nuR
   rw [if_neg hg,if_neg hgk]
   have hlt:=rndS_lt (A':=(X8 BL C).map List.length) (A:=BL.map List.length) (b:=b) hbll hbase (λh1 h2=>by
    rw [Va,Va]
    have e:=bse_at (C:=C) hb
    rw [Wa (by rw [JH];~hb)] at e
    injection e with e
    rw [e]
    &List.length_filter_lt_length_iff_exists.2 ⟨c,hcb,?_⟩
    rw [Qdd λk=>k hcC];decide) (by rw [Wb];~hb)
   rw [Wb] at hlt
   rcases X.lens with e | e
   ·rw [e];omega
   ·rw [e,rndS_add (by rw [Wb,JH];~htb.2.2),Wb,JH]
    have:=htb.2.1 hb1
    omega
end
def endH(h:Hp):Hp:=⟨h.config,h.space,h.belts,h.seq,h.sets,h.roots,0,⟨h.stats.allocated,h.stats.objects,h.stats.collections,h.stats.steps,w64 (h.stats.rounds+1),h.stats.condemned,h.stats.copied,h.stats.entries,h.stats.work⟩,h.dead⟩
def Qgi(h:Hp)(n:Int):Prop:=0<n/\¬ (Xq h n).1=3/\ovrL h=[]
noncomputable def QdI(n:Int):Nat->Hp->Cur->Hp×Bool
 | 0,h,_=>(h,false)
 | f+1,h,k=>open Classical in
  if Qgi h n then (h,false)
  else if (Qc3 h k).2.2=true then (endH h,true)
  else if (Qc3 h k).1.length=0 then (h,false)
  else QdI n f (ZG h (Qc3 h k).1) (Qc3 h k).2.1
open Classical in
theorem rndN_succ (n:Int) (f:Nat) (h:Hp) (k:Cur):QdI n (f+1) h k=if Qgi h n then (h,false) else if (Qc3 h k).2.2=true then (endH h,true) else if (Qc3 h k).1.length=0 then (h,false) else QdI n f (ZG h (Qc3 h k).1) (Qc3 h k).2.1:=rfl
inductive Stps:Hp->List (List Itm)->Nat->Hp->List (List Itm)->Prop
 | refl {h:Hp} {BL:List (List Itm)}:Stps h BL 0 h BL
 | step {h h':Hp} {BL BL':List (List Itm)} {m:Nat} {l:List Inc} {C K:List Itm} {T0 T:Itm} {M:List (Nat×Nat×Nat)}:StX h BL l C K T0 T M->Stps (ZG h l) (Zt BL C T0 T) m h' BL'->Stps h BL (m+1) h' BL'
theorem Stps.inv{h h':Hp}{BL BL':List (List Itm)}{m:Nat}(s:Stps h BL m h' BL')(H:QG h BL):QG h' BL':=by
 induction s with
 | refl=>~H
 | step X _ ih=>~ih X.inv
theorem Stps.keep{h h':Hp}{BL BL':List (List Itm)}{m:Nat}(s:Stps h BL m h' BL'):h'.config=h.config/\h'.dead=h.dead/\h'.since=h.since/\h.seq<=h'.seq/\h'.seq<=h.seq+m/\h'.roots.used=h.roots.used/\h'.space.sh=h.space.sh/\h'.space.ws.length=h.space.ws.length/\h'.space.fs.length=h.space.fs.length:=by
 induction s with
 | refl=>~⟨rfl,rfl,rfl,Vo _,Oo,rfl,rfl,rfl,rfl⟩
 | step X _ ih =>
  have hs:=X.seqs
  have hl:=X.len3
  ð⟨a,b,c,d,e,f,g,i,j⟩:=ih
  ~⟨a,b,c,Oo,by push_cast;omega,f,g,i.trans hl.1,j.trans hl.2⟩
def StopP(h:Hp)(n:Int)(k:Cur)(r:Hp×Bool):Prop:=(r=(h,false)/\(Qgi h n\/((Qc3 h k).2.2=false/\(Qc3 h k).1=[])))\/(r=(endH h,true)/\¬ Qgi h n/\(Qc3 h k).2.2=true)
theorem rnd_steps{n:Int}:∀ (f:Nat) {h:Hp} {BL:List (List Itm)} {k:Cur},QG h BL->Qef h BL k->nuR BL k<f->h.seq+nuR BL k<=4294967294 ->
  ∃ h1 BL1 m k1,Stps h BL m h1 BL1/\m<=nuR BL k/\Qef h1 BL1 k1/\StopP h1 n k1 (QdI n f h k)
 | 0,h,BL,k,_,_,hf,_=>absurd hf (WZ _)
 | f+1,h,BL,k,H,hk,hf,hq=>by
  ð⟨c1,c2,c3,c4,c5⟩:=chs_spec H hk
  unfold QdI
  by_cases he:Qgi h n
  ·rw [if_pos he]
   ~⟨h,BL,0,k,.refl,WT _,hk,.inl ⟨rfl,.inl he⟩⟩
  ·rw [if_neg he]
   by_cases h1:(Qc3 h k).2.2=true
   ·rw [if_pos h1]
    ~⟨h,BL,0,k,.refl,WT _,hk,.inr ⟨rfl,he,h1⟩⟩
   ·rw [if_neg h1]
    by_cases h2:(Qc3 h k).1.length=0
    ·rw [if_pos h2]
     ~⟨h,BL,0,k,.refl,WT _,hk,.inl ⟨rfl,.inr ⟨by simpa using h1,Uk h2⟩⟩⟩
    ·rw [if_neg h2]
     ð⟨_,hc⟩:=c5 h2
     ð⟨C,K,T0,T,M,X⟩:=step_x H hc Oo
     ð⟨s1,s2⟩:=step_cur X hk c1 c3 c4 hc
     have hs:=X.seqs
     ð⟨h',BL',m,k',g1,g2,g3,g4⟩:=rnd_steps (n:=n) f X.inv s1 Oo Oo
     ~⟨h',BL',m+1,k',.step X g1,Oo,g3,g4⟩
theorem nuR_0(BL:List (List Itm)):nuR BL ⟨0,false,0⟩=QeS (BL.map List.length):=rfl
theorem rndS_256{h:Hp}{BL:List (List Itm)}(H:QG h BL):QeS (BL.map List.length)<=256:=by
 have h1:=H.count
 have h2:=H.cfg.len
 have h3:=H.bn
 have key:∀ (A:List Nat),QeS A<=A.sum*A.length:=by
  intro A
  induction A with
  | nil=>~Wl _
  | cons n A ih =>
   show n*(A.length+1)+QeS A<=(n :: A).sum*(A.length+1)
   rw [UK,Vv]
   have:=Nat.mul_le_mul_left A.sum (Nat.le_succ A.length)
   have e:A.sum*(A.length+1)=A.sum*A.length+A.sum:=by rw [Nat.mul_add,Nat.mul_one]
   omega
 have h4:=key (BL.map List.length)
 rw [<- U1,Wb] at h4
 have:BL.flatten.length*BL.length<=64*4:=V1 h1 Oo
 omega
theorem cur_0{h:Hp}{BL:List (List Itm)}(H:QG h BL):Qef h BL ⟨0,false,0⟩:=by
 have:=H.b0
 have:=H.blen
 ~⟨Vo _,by dsimp only;omega,λb _ hlt=>by dsimp only at hlt;omega,λh=>by cases h⟩
theorem loop_fuel{σ β:Type}{F:σ->Option (LS σ β)}{I:Nat->σ->β->Prop}(h0:∀ s b,¬ I 0 s b)(h:∀ f s b,I (f+1) s b->Gd (λa=>(∃ s',a=LS.go s'/\I f s' b)\/a=LS.out b) (F s)):∀ f s b,I f s b->Qh F s=some b
 | 0,s,b,hI=>absurd hI (h0 s b)
 | f+1,s,b,hI=>by
  ð⟨a,h1,h2⟩:=h f s b hI
  rcases h2 with ⟨s',rfl,h3⟩ | rfl
  ·rw [Qfr h1];~loop_fuel h0 h f s' b h3
  ·~Qcw h1
abbrev RndT:=ByteArray×List Rul×Int×Int×List Int×List Fe×List (List Inc)×Int×List Qe×List Bool×List Int×Int×Int×Int×Int×Int×Int×Int×Int×Int×Int×Bool×Cur
def mkR(h:Hp)(k:Cur):RndT:=(h.config.name,h.config.rules,h.config.full,h.space.sh,h.space.ws,h.space.fs,h.belts,h.seq,h.sets,h.roots.used,h.roots.refs,h.since,h.stats.allocated,h.stats.objects,h.stats.collections,h.stats.steps,h.stats.rounds,h.stats.condemned,h.stats.copied,h.stats.entries,h.stats.work,h.dead,k)
set_option maxHeartbeats 1000000 in
theorem round_c{h:Hp}{BL:List (List Itm)}(H:QG h BL){n:Int}(hn:n=0\/(1<=n/\n<=1000))(hq:h.seq+256<=4294967294):Zx h n=some (QdI n 300 h ⟨0,false,0⟩):=by
 have h256:=rndS_256 H
 &Gd.eq ?_
 unfold Zx
 &.call (Qb0 H) ?_
 &Gd.of (loop_fuel (I:=λf (x:RndT) b=>∃ h1 BL1 k,x=mkR h1 k/\QG h1 BL1/\Qef h1 BL1 k/\nuR BL1 k<f/\h1.seq+nuR BL1 k<=4294967294/\b=QdI n f h1 k) (λs b hI=>?_) (λf s b hI=>?_) 300 _ _ ⟨h,BL,⟨0,false,0⟩,rfl,H,cur_0 H,by rw [nuR_0];omega,by rw [nuR_0];omega,rfl⟩) rfl
 ·ð⟨_,_,_,_,_,_,hf,_⟩:=hI
  omega
 ð⟨h1,BL1,k,rfl,H1,hk,hf,hs,rfl⟩:=hI
 ð⟨c1,c2,c3,c4,c5⟩:=chs_spec H1 hk
 have hblen:=H1.blen
 rw [rndN_succ]
 &Gd.bndR (P:=λz=>(z = .inl ()/\¬ Qgi h1 n)\/(z = .inr (.out (h1,false))/\Qgi h1 n)) ?_ (λ_ hP=>?_) (λr hP=>?_)
 ·&.ite (λh0=>?_) λh0=>.some (.inl ⟨rfl,λe=>h0 e.1⟩)
  have hn1:1<=n/\n<=1000:=by omega
  &.call (wants_c H1 hn1) ?_
  &.ite (λhw=>.some (.inl ⟨rfl,λe=>e.2.1 (of_decide_eq_true hw)⟩)) λhw=>?_
  &.call (over_c H1) ?_
  rw [Wb]
  &.ite (λho=>.some (.inr ⟨rfl,h0,λe=>hw (decide_eq_true e),Uk Oo⟩)) λho=>.some (.inl ⟨rfl,λe=>ho (by rw [e.2.2];rfl)⟩)
 ·rcases hP with ⟨_,he⟩ | ⟨hP,_⟩
  ·rw [if_neg he]
   &.call (choose_c H1 ⟨hk.lo,by rw [hblen];~hk.hi⟩) ?_
   &.ite (λh3=>.some (.inr (by rw [if_pos (show (Qc3 h1 k).2.2=true from h3)];rfl))) λh3=>?_
   have h3:¬ (Qc3 h1 k).2.2=true:=h3
   rw [if_neg h3]
   &.ite (λh4=>.some (.inr (by
    have h4:((Qc3 h1 k).1.length:Int)=0:=h4
    rw [if_pos (show (Qc3 h1 k).1.length=0 by omega)];rfl))) λh4=>?_
   have h4:¬ ((Qc3 h1 k).1.length:Int)=0:=h4
   have h4:¬ (Qc3 h1 k).1.length=0:=by omega
   rw [if_neg h4]
   ð⟨_,hc⟩:=c5 h4
   ð⟨C,K,T0,T,M,X⟩:=step_x H1 hc Oo
   ð⟨s1,s2⟩:=step_cur X hk c1 c3 c4 hc
   have hsq:=X.seqs
   have hdo:=do_c H1 (Qc3 h1 k).1 (by have:=hc.len;omega) Oo
   rw [if_pos hc.tgt,if_pos hc.sum] at hdo
   &.call hdo (.pos rfl (.some (.inl ⟨_,rfl,ZG h1 (Qc3 h1 k).1,Zt BL1 C T0 T,(Qc3 h1 k).2.1,rfl,X.inv,s1,Oo,Oo,rfl⟩)))
  ·cases hP
 ·rcases hP with ⟨hP,_⟩ | ⟨hP,he⟩
  ·cases hP
  ·injection hP with hP
   rw [if_pos he]
   ~.inr hP
theorem full_c{h:Hp}{BL:List (List Itm)}(H:QG h BL)(hq:h.seq+256<=4294967294):XG h=some (QdI 0 300 h ⟨0,false,0⟩):=by
 unfold XG
 rw [round_c H (.inl rfl) hq]
 rfl
theorem QG.of{h h':Hp}{BL:List (List Itm)}(H:QG h BL)(h1:h'.config=h.config)(h2:h'.space=h.space)(h3:h'.belts=h.belts)(h4:h'.seq=h.seq)(h5:h'.sets=h.sets)(h6:h'.roots=h.roots):QG h' BL:=by
 ð⟨a1,a2,a3,a4,a5,a6,a7,a8,a9,b1,b2,b3,b4,b5,b6,b7,b8⟩:=H
 ~⟨by rw [h1];~a1,by rw [h3];~a2,by rw [h1];~a3,by rw [h2];~a4,a5,a6,a7,by rw [h4];~a8,by rw [h4];~a9,by rw [h6];~b1,by rw [h6,h2];~b2,by rw [h2];~b3,by rw [h5];~b4,by rw [h5];~b5,by rw [h5,h2];~b6,by rw [h5,h2];~b7,by rw [h1,h2];~b8⟩
theorem Qck.perm{s:Sp}{L L':List Itm}(h:Qck s L)(p:L.Perm L'):Qck s L' :=
 ⟨h.ok,h.w,λx hx=>h.each x (p.mem_iff.2 hx),(p.pairwise_iff λk e=>k e.symm).1 h.seqs,λk hk h0=>by
  ð⟨x,hx,hkx⟩:=h.all k hk h0
  ~⟨x,p.mem_iff.1 hx,hkx⟩⟩
noncomputable def QfS(h:Hp)(i:Inc)(r d:Int):Int:=(GoR ⟨h.space.sh,h.space.ws,Zd h.space i (1+r+d)⟩ ((grw h.space i (1+r+d)).first*2^h.space.sh.toNat) i.words).1
noncomputable def putS(h:Hp)(i:Inc)(r d:Int):Sp:=⟨h.space.sh,clrL ⟨h.space.sh,h.space.ws,Zd h.space i (1+r+d)⟩ (QfS h i r d) (r+d).toNat (h.space.ws.set (QfS h i r d).toNat (hdW r d)),Zd h.space i (1+r+d)⟩
noncomputable def Qfi(h:Hp)(kind:Int)(i:Inc)(r d:Int):Hp :=
 ⟨h.config,putS h i r d,if kind=2 then addB h.belts (grw h.space i (1+r+d)) else repB h.belts (grw h.space i (1+r+d)),if kind=2 then w64 (h.seq+1) else h.seq,h.sets,h.roots,h.since,
  ⟨w64 (h.stats.allocated+(1+r+d)),w64 (h.stats.objects+1),h.stats.collections,h.stats.steps,h.stats.rounds,h.stats.condemned,h.stats.copied,h.stats.entries,h.stats.work⟩,h.dead⟩
structure Xt(h:Hp)(BL:List (List Itm))(kind:Int)(x:Itm)(r d:Nat):Prop where
 H:QG h BL
 it:QaC h.space x
 r15:r<=15
 d32:d<=32
 room:exN h.space x.i ((1+r+d:Nat):Int)<=(Qk h.space.fs).length
 resv:CplP h.config->2*(h.space.fs.length-(Qk h.space.fs).length+exN h.space x.i ((1+r+d:Nat):Int))<=h.space.fs.length
 how:(kind=1/\x∈BL.flatten)\/(kind=2/\x=newI h.seq 0)
 q:h.seq<=4294967294
theorem exN_cl{s:Sp}(hs:Qc4 s){i:Inc}{n:Int}(h0:0<=i.words/\i.words<=s.ws.length)(hn:1<=n/\n<=48):(exN s i n:Int)=clN s (i.words+n)-clN s i.words:=(exN_ok hs h0 hn).1.symm
theorem plan_x{h:Hp}{BL:List (List Itm)}(H:QG h BL){r d:Nat}(hr:r<=15)(hd:d<=32)(hq:h.seq<=4294967294){k:Int}{i:Inc}(hp:Xq h ((1+r+d:Nat):Int)=(k,i))(hk:¬ k=3):∃ x,x.i=i/\Xt h BL k x r d:=by
 unfold Xq at hp
 cases hc:candR h with
 | none=>rw [hc] at hp;injection hp with h1 h2;~absurd h1.symm hk
 | some p =>
  ð⟨k',i'⟩:=p
  rw [hc] at hp
  dsimp only at hp
  split at hp
  ·rename_i hg
   injection hp with h1 h2
   subst h1;subst h2
   obtain ⟨x,hxi,hX,how⟩:∃ x:Itm,x.i=i'/\QaC h.space x/\((k'=1/\x∈BL.flatten)\/(k'=2/\x=newI h.seq 0)):=by
    rcases candR_in H hc with ⟨e1,hy,_⟩ | ⟨e1,e2⟩
    ·ð⟨x,hx,e,_⟩:=H.yng hy
     ~⟨x,e,H.sp.each x hx,.inl ⟨e1,hx⟩⟩
    ·have:=H.sp.add (q:=h.seq) (b:=0) ⟨H.sq0,Oo⟩ ⟨Oo,Oo⟩ λx hx=>by have:=H.sq x hx;omega
     ~⟨newI h.seq 0,e2.symm,this.each _ (Wj _ (Wo.2 rfl)),.inr ⟨e1,rfl⟩⟩
   subst hxi
   have hwd:=hX.inc.wd
   have hex:=exN_cl H.sp.ok.shp hwd (n:=((1+r+d:Nat):Int)) ⟨Oo,Oo⟩
   have hfl:=free_le h.space.fs
   unfold GrnP usdF at hg
   rw [<- hex] at hg
   &⟨x,rfl,H,hX,hr,hd,?_,λhcp=>?_,how,hq⟩
   ·rcases hg with hg | hg
    ·omega
    ·have:=hg.1;omega
   ·have h0:=H.resv hcp
    rcases hg with hg | hg
    ·omega
    ·have:=hg.2.1 hcp;omega
  ·injection hp with h1 h2;~absurd h1.symm hk
section
variable{h:Hp}{BL:List (List Itm)}{kind:Int}{x:Itm}{r d:Nat}
noncomputable abbrev QaA(h:Hp)(x:Itm)(r d:Nat):Itm:=aloX h.space x r d
noncomputable def Qa7(BL:List (List Itm))(kind:Int)(x x':Itm):List (List Itm):=if kind=2 then BL.modify 0 λq=>q++[x'] else BL.map λq=>q.map (Qdc x x')
theorem Xt.cast(X:Xt h BL kind x r d):(1+(r:Int)+d)=((1+r+d:Nat):Int):=by push_cast;rfl
theorem Xt.gk(X:Xt h BL kind x r d):GrwOk h.space x.i x.fr ((1+r+d:Nat):Int):=Qge X.H.sp.ok X.it.inc ⟨Oo,by have:=X.r15;have:=X.d32;omega⟩ X.room
theorem Xt.ats(X:Xt h BL kind x r d):QfS h x.i r d=((adr (szS h.space) (QaA h x r d).fr x.i.words.toNat:Nat):Int):=by
 unfold QfS
 rw [X.cast,X.gk.at X.H.sp.ok X.it.inc ⟨Oo,by have:=X.r15;have:=X.d32;omega⟩ X.room]
 rfl
theorem Xt.space(X:Xt h BL kind x r d):putS h x.i r d=Qde h.space x r d:=by
 unfold putS Qde iniW
 rw [X.ats,X.cast,Wd,show ((r:Int)+d).toNat=r+d by omega]
 rfl
theorem Xt.own(X:Xt h BL kind x r d):ZL (Qde h.space x r d)/\SpW (Qde h.space x r d)/\QaC (Qde h.space x r d) (QaA h x r d):=alo_own X.H.sp.ok X.H.sp.w X.it X.r15 X.d32 X.room
theorem Xt.z(X:Xt h BL kind x r d):szS (Qde h.space x r d)=szS h.space:=rfl
theorem Xt.i(X:Xt h BL kind x r d):(QaA h x r d).i.seq=x.i.seq/\(QaA h x r d).i.belt=x.i.belt/\(QaA h x r d).i.words=x.i.words+(1+r+d):=by
 have:=X.gk.same
 ~⟨this.2.1,this.2.2,by show (grw h.space x.i ((1+r+d:Nat):Int)).words=_;rw [this.1];push_cast;omega⟩
theorem Xt.bl0(X:Xt h BL kind x r d):0<BL.length:=by
 have:=X.H.cfg.len
 have:=X.H.bn
 omega
theorem Xt.perm(X:Xt h BL kind x r d):∃ A B,(∀ y∈A++B,y∈BL.flatten/\y≠x)/\(∀ y∈BL.flatten,y=x\/y∈A++B)/\Qck h.space (A++x :: B)/\(A++QaA h x r d :: B).Perm (Qa7 BL kind x (QaA h x r d)).flatten:=by
 unfold Qa7
 rcases X.how with ⟨e,hx⟩ | ⟨e,ex⟩
 ·subst e
  rw [if_neg Od]
  ð⟨A,B,eAB⟩:=List.append_of_mem hx
  have hd:=X.H.sp.seqs
  rw [eAB] at hd
  have hne:∀ y∈A++B,y≠x:=λy hy e=>by
   ð⟨_,p2,p3⟩:=W5.1 hd
   rcases Wn.1 hy with hy | hy
   ·~p3 y hy x (WA ..) (by rw [e])
   ·~(Vs.1 p2).1 y hy (by rw [e])
  &⟨A,B,λy hy=>⟨?_,hne y hy⟩,λy hy=>?_,by rw [<- eAB];~X.H.sp,?_⟩
  ·rw [eAB]
   rcases Wn.1 hy with hy | hy
   ·~Wf _ hy
   ·~Wj _ (Wm _ hy)
  ·rw [eAB] at hy
   rcases Wn.1 hy with hy | hy
   ·~.inr (Wf _ hy)
   ·rcases Wt.1 hy with hy | hy
    ·~.inl hy
    ·~.inr (Wj _ hy)
  ·rw [<- Yo,eAB,WH,Vg]
   have hA:A.map (Qdc x (QaA h x r d))=A:=by
    &(WW λy hy=>?_).trans (Y6 A)
    unfold Qdc
    rw [if_neg (hne y (Wf _ hy))];rfl
   have hB:B.map (Qdc x (QaA h x r d))=B:=by
    &(WW λy hy=>?_).trans (Y6 B)
    unfold Qdc
    rw [if_neg (hne y (Wj _ hy))];rfl
   rw [hA,hB,show Qdc x (QaA h x r d) x=QaA h x r d from by unfold Qdc;rw [if_pos rfl]]
 ·subst e
  rw [if_pos rfl]
  have hsp:=X.H.sp.add (q:=h.seq) (b:=0) ⟨X.H.sq0,by have:=X.q;omega⟩ ⟨Oo,Oo⟩ λx hx=>by have:=X.H.sq x hx;omega
  &⟨BL.flatten,[],λy hy=>?_,λy hy=>.inr (by simpa using hy),by rw [ex];~hsp,(Qfx _ _ _ X.bl0).symm⟩
  rw [Vl] at hy
  &⟨hy,λe=>?_⟩
  have:=X.H.sq y hy
  rw [e,ex] at this
  dsimp only at this
  omega
theorem Xt.sp(X:Xt h BL kind x r d):Qck (Qde h.space x r d) (Qa7 BL kind x (QaA h x r d)).flatten:=by
 ð⟨A,B,_,_,h1,h2⟩:=X.perm
 ~(alo_inv h1 X.r15 X.d32 X.room).perm h2
theorem Xt.mem(X:Xt h BL kind x r d){y:Itm}:y∈(Qa7 BL kind x (QaA h x r d)).flatten<->y=QaA h x r d\/(y∈BL.flatten/\y≠x):=by
 ð⟨A,B,h0,h00,h1,h2⟩:=X.perm
 rw [<- h2.mem_iff,Wn,Wt]
 constructor
 ·rintro (k | k | k)
  ·~.inr (h0 y (Wf _ k))
  ·~.inl k
  ·~.inr (h0 y (Wj _ k))
 ·rintro (k | ⟨k,k2⟩)
  ·~.inr (.inl k)
  ·rcases h00 y k with e | e
   ·~absurd e k2
   ·rcases Wn.1 e with e | e
    ·~.inl e
    ·~.inr (.inr e)
theorem Xt.osI(X:Xt h BL kind x r d):obs 0 (QaA h x r d).os=obs 0 x.os++[(x.i.words.toNat,r,d)]:=Qfj X.it.lay
theorem Xt.room'(X:Xt h BL kind x r d):x.i.words.toNat+1+r+d<=(QaA h x r d).fr.length*szS h.space/\x.i.words.toNat<=x.fr.length*szS h.space:=by
 have h1:=X.own.2.2.inc.room X.own.1
 have h2:=X.it.inc.room X.H.sp.ok
 have h3:=X.i.2.2
 have h4:=X.it.inc.wd
 rw [X.z] at h1
 omega
theorem Xt.old_adr(X:Xt h BL kind x r d){p:Nat}(hp:p<x.i.words.toNat):adr (szS h.space) (QaA h x r d).fr p=adr (szS h.space) x.fr p:=by
 have hz:=(Jm X.H.sp.ok.shp.sh).2.2.1
 have:=X.room'.2
 ~Xg Oo Oo
theorem Xt.cases(X:Xt h BL kind x r d){y:Itm}(hy:y∈(Qa7 BL kind x (QaA h x r d)).flatten){p a b:Nat}(hp:(p,a,b)∈obs 0 y.os) :
  (∃ y'∈BL.flatten,(p,a,b)∈obs 0 y'.os/\∀ k,k<=a+b->adr (szS h.space) y.fr (p+k)=adr (szS h.space) y'.fr (p+k))\/(y=QaA h x r d/\p=x.i.words.toNat/\a=r/\b=d):=by
 rcases X.mem.1 hy with rfl | ⟨k,_⟩
 ·rw [X.osI] at hp
  rcases Wn.1 hp with hp | hp
  ·have hg:=X.it.lay.get _ hp
   dsimp only at hg
   left
   rcases X.how with ⟨_,hx⟩ | ⟨_,ex⟩
   ·~⟨x,hx,hp,λk hk=>X.old_adr Oo⟩
   ·rw [ex] at hp;cases hp
  ·have:=Wo.1 hp
   injection this with e1 e2
   injection e2 with e2 e3
   ~.inr ⟨rfl,e1,e2,e3⟩
 ·~.inl ⟨y,k,hp,λk _=>rfl⟩
theorem Xt.objs(X:Xt h BL kind x r d){y:Itm}(hy:y∈BL.flatten){p a b:Nat}(hp:(p,a,b)∈obs 0 y.os) :
  ∃ y'∈(Qa7 BL kind x (QaA h x r d)).flatten,(p,a,b)∈obs 0 y'.os/\∀ k,k<=a+b->adr (szS h.space) y'.fr (p+k)=adr (szS h.space) y.fr (p+k):=by
 by_cases e:y=x
 ·subst e
  have hg:=X.it.lay.get _ hp
  dsimp only at hg
  ~⟨_,X.mem.2 (.inl rfl),by rw [X.osI];~Wf _ hp,λk hk=>X.old_adr Oo⟩
 ·~⟨y,X.mem.2 (.inr ⟨hy,e⟩),hp,λk _=>rfl⟩
theorem Xt.word(X:Xt h BL kind x r d){y:Itm}(hy:y∈BL.flatten){p:Nat}(hp:p<y.i.words.toNat):(Qde h.space x r d).ws[adr (szS h.space) y.fr p]?=h.space.ws[adr (szS h.space) y.fr p]?:=by
 have hz:=(Jm X.H.sp.ok.shp.sh).2.2.1
 have hY:=X.H.sp.each y hy
 have hry:=hY.inc.room X.H.sp.ok
 have hr:=X.room'
 have hgk:=X.gk
 &Qcx (s:=⟨h.space.sh,h.space.ws,Zd h.space x.i ((1+r+d:Nat):Int)⟩) (fr:=(QaA h x r d).fr) (p:=x.i.words.toNat) hgk.sp.shp hgk.inc.toIncC.ch hgk.inc.toIncC.own (by show _<_*szS h.space;omega) (x:=adr (szS h.space) y.fr p) λk hk e=>?_
 have e:adr (szS h.space) y.fr p=adr (szS h.space) (QaA h x r d).fr (x.i.words.toNat+k):=e
 by_cases ey:y=x
 ·subst ey
  rw [<- X.old_adr hp] at e
  have:=Qbr Oo hgk.inc.nd (p:=p) (q:=y.i.words.toNat+k) (by show _<(QaA h y r d).fr.length*_;omega) (by show _<(QaA h y r d).fr.length*_;omega) e
  omega
 ·have h1:=X.sp.each y (X.mem.2 (.inr ⟨hy,ey⟩))
  have h2:=X.own.2.2
  &QeQ Oo (h1.inc.toIncC.disj h2.inc.toIncC ?_) (p:=p) (q:=x.i.words.toNat+k) Oo Oo e
  rw [X.i.1]
  rcases X.how with ⟨_,hx⟩ | ⟨_,ex⟩
  ·~λk=>ey (X.H.uniq hy hx k)
  ·have:=X.H.sq y hy
   rw [ex];show y.i.seq≠h.seq;omega
theorem Xt.new0(X:Xt h BL kind x r d){k:Nat}(h1:1<=k)(h2:k<=r+d):wAt (Qde h.space x r d) ((adr (szS h.space) (QaA h x r d).fr (x.i.words.toNat+k):Nat):Int)=0:=by
 have hr:=X.room'
 have hgk:=X.gk
 have:=iniW_0 (s:=⟨h.space.sh,h.space.ws,Zd h.space x.i ((1+r+d:Nat):Int)⟩) (fr:=(QaA h x r d).fr) (p:=x.i.words.toNat) (r:=r) (d:=d) hgk.sp.shp hgk.inc.toIncC.ch hgk.inc.nd hgk.inc.toIncC.own (by show _<_*szS h.space;omega) h1 h2
 ~Jk this
theorem Xt.frame(X:Xt h BL kind x r d){y:Itm}(hy:y∈BL.flatten){k:Nat}(hk:k∈y.fr):∃ (h0:k<h.space.fs.length) (h3:k<(Qde h.space x r d).fs.length),(Qde h.space x r d).fs[k].ow=h.space.fs[k].ow/\(Qde h.space x r d).fs[k].st=h.space.fs[k].st/\¬ h.space.fs[k].ow = -1:=by
 have h0i:=(X.H.sp.each y hy).inc.toIncC
 have h0:=h0i.ch.lt k hk
 have h3:k<(Qde h.space x r d).fs.length:=by show k<(Zd _ _ _).length;rw [X.gk.len];~h0
 &⟨h0,h3,?_⟩
 have hsq:=h0i.sq
 rw [(h0i.ow k h0).2 hk,h0i.st k h0 hk]
 by_cases e:y=x
 ·subst e
  have h3i:=X.own.2.2.inc.toIncC
  have hk3:k∈(QaA h y r d).fr:=Wf _ hk
  &⟨?_,?_,Oo⟩
  ·rw [(h3i.ow k h3).2 hk3,X.i.1]
  ·rw [h3i.st k h3 hk3,X.i.1,X.i.2.1]
 ·have h3i:=(X.sp.each y (X.mem.2 (.inr ⟨hy,e⟩))).inc.toIncC
  ~⟨(h3i.ow k h3).2 hk,h3i.st k h3 hk,Oo⟩
theorem Xt.belts(X:Xt h BL kind x r d):(Qfi h kind x.i r d).belts=(Qa7 BL kind x (QaA h x r d)).map λq=>q.map Itm.i:=by
 show (if kind=2 then addB h.belts (grw h.space x.i (1+(r:Int)+d)) else repB h.belts (grw h.space x.i (1+(r:Int)+d)))=_
 rw [X.cast]
 have hi:=X.i
 have hgi:grw h.space x.i ((1+r+d:Nat):Int)=(QaA h x r d).i:=rfl
 rw [hgi]
 unfold Qa7
 rcases X.how with ⟨e,hx⟩ | ⟨e,ex⟩
 ·subst e
  rw [if_neg Od,if_neg Od]
  unfold repB
  rw [X.H.bl]
  apply V7
  intro n
  rw [W6,Wh,Wh,Wh]
  cases hb:BL[n]? with
  | none=>rfl
  | some q =>
   simp only [Wu,VZ]
   congr 1
   ð⟨hl,rfl⟩:=Wq.1 hb
   have hqm:∀ y∈BL[n],y∈BL.flatten/\y.i.belt=(n:Int):=λy hy=>⟨Vb.2 ⟨_,Wc hl,hy⟩,X.H.blt n hl y hy⟩
   by_cases e:(QaA h x r d).i.belt.toNat=n
   ·rw [if_pos e]
    unfold repQ
    rw [W3,W3]
    &WW λy hy=>?_
    show (if y.i.seq=(QaA h x r d).i.seq then (QaA h x r d).i else y.i)=(Qdc x (QaA h x r d) y).i
    unfold Qdc
    by_cases ey:y=x
    ·rw [if_pos ey,if_pos (by rw [ey,hi.1])]
    ·rw [if_neg ey,if_neg]
     rw [hi.1]
     ~λk=>ey (X.H.uniq (hqm y hy).1 hx k)
   ·rw [if_neg e,W3]
    &WW λy hy=>?_
    show y.i=(Qdc x (QaA h x r d) y).i
    unfold Qdc
    rw [if_neg]
    rintro rfl
    have:=(hqm y hy).2
    rw [hi.2.1,this] at e
    ~e rfl
 ·subst e
  rw [if_pos rfl,if_pos rfl]
  unfold addB
  rw [hi.2.1,show x.i.belt.toNat=0 from by rw [ex];rfl,X.H.bl]
  apply V7
  intro n
  rw [W6,Wh,Wh,W6]
  cases BL[n]? with
  | none=>rfl
  | some q =>
   simp only [Wu,VZ]
   split <;> simp
end
section
variable{h:Hp}{BL:List (List Itm)}{kind:Int}{x:Itm}{r d:Nat}
theorem Xt.blen(X:Xt h BL kind x r d):(Qa7 BL kind x (QaA h x r d)).length=BL.length:=by
 unfold Qa7
 split
 ·rw [Yb]
 ·rw [Wb]
theorem Xt.slot(X:Xt h BL kind x r d){q:Nat}(hq:QaB (szS h.space) (Qa7 BL kind x (QaA h x r d)).flatten q) :
  (QaB (szS h.space) BL.flatten q/\wAt (Qde h.space x r d) (q:Int)=wAt h.space (q:Int))\/wAt (Qde h.space x r d) (q:Int)=0:=by
 ð⟨y,hy,p,a,b,hp,k,k1,k2,rfl⟩:=hq
 rcases X.cases hy hp with ⟨y',hy',hp',ea⟩ | ⟨rfl,rfl,rfl,rfl⟩
 ·rw [ea k Oo]
  &.inl ⟨⟨y',hy',p,a,b,hp',k,k1,k2,rfl⟩,?_⟩
  have hY:=X.H.sp.each y' hy'
  have b1:=Itm.posOk X.H.sp.ok hY hp'
  have hg:=hY.lay.get _ hp'
  dsimp only at hg
  have hlt:=Jo X.H.sp.ok.shp hY.inc.ch.lt (p:=p+k) Oo
  ~wAt_opt (X.word hy' (p:=p+k) Oo) hlt
 ·~.inr (X.new0 k1 Oo)
theorem Xt.slots(X:Xt h BL kind x r d){q:Nat}(hq:QaB (szS h.space) BL.flatten q):QaB (szS h.space) (Qa7 BL kind x (QaA h x r d)).flatten q:=by
 ð⟨y,hy,p,a,b,hp,k,k1,k2,rfl⟩:=hq
 ð⟨y',hy',hp',ea⟩:=X.objs hy hp
 ~⟨y',hy',p,a,b,hp',k,k1,k2,(ea k Oo).symm⟩
theorem Xt.objz(X:Xt h BL kind x r d){a r' d':Nat}(ho:ObjZ (szS h.space) BL.flatten a r' d'):ObjZ (szS h.space) (Qa7 BL kind x (QaA h x r d)).flatten a r' d':=by
 ð⟨y,hy,p,hp,rfl⟩:=ho
 ð⟨y',hy',hp',ea⟩:=X.objs hy hp
 ~⟨y',hy',p,hp',by have:=ea 0 Oo;rw [VW] at this;~this.symm⟩
theorem Xt.refw(X:Xt h BL kind x r d){w:Int}(ho:RefW (szS h.space) BL.flatten w):RefW (szS h.space) (Qa7 BL kind x (QaA h x r d)).flatten w:=by
 rcases ho with k | ⟨k,r',d',ho⟩
 ·~.inl k
 ·~.inr ⟨k,r',d',X.objz ho⟩
theorem Xt.new(X:Xt h BL kind x r d):ObjZ (szS h.space) (Qa7 BL kind x (QaA h x r d)).flatten (QfS h x.i r d).toNat r d:=by
 rw [X.ats,Wd]
 ~⟨_,X.mem.2 (.inl rfl),x.i.words.toNat,by rw [X.osI];~Wj _ (Wo.2 rfl),rfl⟩
theorem Xt.ownf(X:Xt h BL kind x r d){k:Nat}(hk:k<h.space.fs.length)(ho:¬ h.space.fs[k].ow = -1):∃ (h3:k<(Qde h.space x r d).fs.length),(Qde h.space x r d).fs[k].ow=h.space.fs[k].ow/\(Qde h.space x r d).fs[k].st=h.space.fs[k].st:=by
 ð⟨y,hy,hky⟩:=X.H.sp.all k hk ho
 ð⟨_,h3,e1,e2,_⟩:=X.frame hy hky
 ~⟨h3,e1,e2⟩
theorem Xt.seqE(X:Xt h BL kind x r d):(Qfi h kind x.i r d).seq=if kind=2 then h.seq+1 else h.seq:=by
 show (if kind=2 then w64 (h.seq+1) else h.seq)=_
 have:=X.q
 have:=X.H.sq0
 rw [Qd Oo]
theorem Xt.inv(X:Xt h BL kind x r d):QG (Qfi h kind x.i r d) (Qa7 BL kind x (QaA h x r d)):=by
 have es:(Qfi h kind x.i r d).space=Qde h.space x r d:=X.space
 have ez:szS (Qfi h kind x.i r d).space=szS h.space:=by rw [es];~X.z
 have hi:=X.i
 have hq:=X.q
 have hq0:=X.H.sq0
 have hsq:=X.seqE
 &⟨X.H.cfg,X.belts,X.blen.trans X.H.bn,by rw [es];~X.sp,λy hy=>?_,?_,?_,λy hy=>?_,?_,X.H.rts,λi hi=>?_,λq hs=>?_,X.H.sok,X.H.sin,λf t q hin=>?_,λq hs hn=>?_,λhc=>?_⟩
 ·rcases X.mem.1 hy with rfl | ⟨k,_⟩
  ·have:=X.it.inc.wd.1
   have:=hi.2.2
   show 1<=(QaA h x r d).i.words
   omega
  ·~X.H.pos y k
 ·intro b hb y hy
  have hbb:b<BL.length:=by rw [<- X.blen];~hb
  have hget:(Qa7 BL kind x (QaA h x r d))[b]?=some (Qa7 BL kind x (QaA h x r d))[b]:=Wa hb
  generalize hq':(Qa7 BL kind x (QaA h x r d))[b]=q at hy hget
  unfold Qa7 at hget
  rcases X.how with ⟨e,hx⟩ | ⟨e,ex⟩
  ·rw [if_neg Oo,Wh,Wa hbb,Wu] at hget
   injection hget with hget
   rw [<- hget] at hy
   ð⟨z,hz,rfl⟩:=Wk.1 hy
   have:=X.H.blt b hbb z hz
   unfold Qdc
   split
   ·rename_i e;rw [hi.2.1,<- e];~this
   ·~this
  ·rw [if_pos e,W6,Wa hbb] at hget
   simp only [VZ,Wu] at hget
   injection hget with hget
   rw [<- hget] at hy
   split at hy
   ·rename_i e
    rcases Wn.1 hy with hy | hy
    ·~X.H.blt b hbb y hy
    ·rw [Wo.1 hy,hi.2.1,ex]
     subst e
     rfl
   ·~X.H.blt b hbb y hy
 ·intro q hqm
  unfold Qa7 at hqm
  rcases X.how with ⟨e,hx⟩ | ⟨e,ex⟩
  ·rw [if_neg Oo] at hqm
   ð⟨p,hp,rfl⟩:=Wk.1 hqm
   rw [Vc]
   have hsw:∀ y,(Qdc x (QaA h x r d) y).i.seq=y.i.seq:=λy=>by
    unfold Qdc
    split
    ·rename_i e;rw [e,hi.1]
    ·rfl
   ~(X.H.asc p hp).imp λk=>by rw [hsw,hsw];~k
  ·rw [if_pos e] at hqm
   ð⟨n,hn⟩:=Vd.1 hqm
   rw [W6] at hn
   cases hb:BL[n]? with
   | none=>rw [hb] at hn;cases hn
   | some p =>
    rw [hb] at hn
    simp only [VZ,Wu] at hn
    injection hn with hn
    have hpm:=Wp hb
    have hp:=X.H.asc p hpm
    rw [<- hn]
    split
    ·rw [W5]
     &⟨hp,Yf _ _,λy hy z hz=>?_⟩
     rw [Wo.1 hz,hi.1,ex]
     ~X.H.sq y (Vb.2 ⟨p,hpm,hy⟩)
    ·~hp
 ·rw [hsq]
  rcases X.mem.1 hy with rfl | ⟨k,_⟩
  ·show (QaA h x r d).i.seq<_
   rw [hi.1]
   rcases X.how with ⟨e,hx⟩ | ⟨e,ex⟩
   ·rw [if_neg Oo];~X.H.sq x hx
   ·rw [if_pos e,ex];show h.seq<h.seq+1;omega
  ·have:=X.H.sq y k
   split <;> omega
 ·rw [hsq]
  split <;> omega
 ·ð⟨k1,a,b,k2⟩:=X.H.roots i hi
  rw [ez]
  ~⟨k1,a,b,X.objz k2⟩
 ·rw [ez] at hs ⊢
  rw [es]
  rcases X.slot hs with ⟨k1,k2⟩ | k
  ·rw [k2];~X.refw (X.H.refs q k1)
  ·~.inl k
 ·ð⟨k1,k2,ht,k3,k4⟩:=X.H.snd f t q hin
  rw [ez]
  ð⟨g1,g2,_⟩:=X.ownf ht k4
  &⟨X.slots k1,by rw [es];~k2,?_⟩
  rw [es]
  ~⟨g1,k3,by rw [g2];~k4⟩
 ·rw [ez] at hs
  rw [es] at hn ⊢
  rcases X.slot hs with ⟨k1,k2⟩ | k
  ·have hr:=X.H.refs q k1
   rw [k2] at hn ⊢
   ð⟨⟨n1,n2,n3,n4⟩,g1,g2,o1,o2,o3⟩:=hn
   have wl:(Qde h.space x r d).ws.length=h.space.ws.length:=by
    have h1:=X.own.1.shp.wl
    have h2:=X.H.sp.ok.shp.wl
    have h3:(Qde h.space x r d).fs.length=h.space.fs.length:=X.gk.len
    rw [h1,h2,h3,X.z]
   ð⟨y,hy,p,a,b,hp,k,j1,j2,e⟩:=k1
   ð⟨f1,f2⟩:=Z2 X.H.sp.ok (X.H.sp.each y hy) hp (k:=k) Oo (q:=(q:Int)) Oo Oo
   rcases hr with hr | ⟨hr1,a',b',z,hz,p',hp',e'⟩
   ·~absurd hr n1
   ·ð⟨f3,f4⟩:=Z2 X.H.sp.ok (X.H.sp.each z hz) hp' (k:=0) Oo (q:=wAt h.space (q:Int)-1) Oo e'
    ð⟨a1,a2,a3,a4,a5⟩:=X.frame hy f1
    ð⟨b1,b2,b3,b4,b5⟩:=X.frame hz f3
    ~X.H.cmp q ⟨y,hy,p,a,b,hp,k,j1,j2,e⟩ ⟨⟨n1,by rw [<- wl];~n2,n3,by rw [<- wl];~n4⟩,a1,b1,a5,b5,lt_sub o3 b4 a4⟩
  ·~absurd k hn.1.1
 ·have h1:=X.resv hc
  have hl:=X.gk.len
  have hf:=congrArg List.length X.gk.free
  rw [Ww] at hf
  have hrm:=X.room
  rw [es]
  show 2*((Zd h.space x.i ((1+r+d:Nat):Int)).length-(Qk (Zd h.space x.i ((1+r+d:Nat):Int))).length)<=(Zd h.space x.i ((1+r+d:Nat):Int)).length
  have hfl:=free_le h.space.fs
  omega
end
theorem QG.cnt{h:Hp}{BL:List (List Itm)}(H:QG h BL)(s:Int)(t:Sts)(b:Bool):QG ⟨h.config,h.space,h.belts,h.seq,h.sets,h.roots,s,t,b⟩ BL:=H.of rfl rfl rfl rfl rfl rfl
theorem rnd_ok{h:Hp}{BL:List (List Itm)}(H:QG h BL)(hq:h.seq+256<=4294967294)(n:Int) :
  ∃ h1 BL1 m k1,Stps h BL m h1 BL1/\m<=QeS (BL.map List.length)/\Qef h1 BL1 k1/\StopP h1 n k1 (QdI n 300 h ⟨0,false,0⟩):=by
 have h256:=rndS_256 H
 have:=rnd_steps (n:=n) 300 H (cur_0 H) (by rw [nuR_0];omega) (by rw [nuR_0];omega)
 rw [nuR_0] at this
 ~this
theorem rnd_inv{h:Hp}{BL:List (List Itm)}(H:QG h BL)(hq:h.seq+256<=4294967294)(n:Int) :
  (∃ BL1,QG (QdI n 300 h ⟨0,false,0⟩).1 BL1)/\(QdI n 300 h ⟨0,false,0⟩).1.config=h.config/\(QdI n 300 h ⟨0,false,0⟩).1.dead=h.dead/\h.seq<=(QdI n 300 h ⟨0,false,0⟩).1.seq/\(QdI n 300 h ⟨0,false,0⟩).1.seq<=h.seq+256:=by
 have h256:=rndS_256 H
 ð⟨h1,BL1,m,k1,s,hm,hk,hs⟩:=rnd_ok H hq n
 have hi:=s.inv H
 have hk:=s.keep
 rcases hs with ⟨e,_⟩ | ⟨e,_⟩
 ·rw [e]
  ~⟨⟨BL1,hi⟩,hk.1,hk.2.1,hk.2.2.2.1,by have:=hk.2.2.2.2.1;show h1.seq<=_;omega⟩
 ·rw [e]
  ~⟨⟨BL1,hi.cnt _ _ _⟩,hk.1,hk.2.1,hk.2.2.2.1,by have:=hk.2.2.2.2.1;show h1.seq<=_;omega⟩
theorem for_c{h:Hp}{BL:List (List Itm)}(H:QG h BL)(hq:h.seq+256<=4294967294){n:Int}(hn:1<=n/\n<=1000):Qb8 h n=some ((QdI n 300 h ⟨0,false,0⟩).1,!decide ((Xq (QdI n 300 h ⟨0,false,0⟩).1 n).1=3)):=by
 ð⟨⟨BL1,H1⟩,_⟩:=rnd_inv H hq n
 unfold Qb8
 rw [round_c H (.inr hn) hq]
 simp only [WQ]
 rw [wants_c H1 hn]
 rfl
def cntH(h:Hp)(s:Int):Hp:=⟨h.config,h.space,h.belts,h.seq,h.sets,h.roots,s,⟨h.stats.allocated,h.stats.objects,w64 (h.stats.collections+1),h.stats.steps,h.stats.rounds,h.stats.condemned,h.stats.copied,h.stats.entries,h.stats.work⟩,h.dead⟩
noncomputable def sncR(h:Hp):Int:=open Classical in if CplP h.config then w64 (h.since+1) else h.since
noncomputable def Qcn(h:Hp)(n:Int):Hp:=open Classical in
 if CplP h.config/\h.config.full<=sncR h then (QdI 0 300 (cntH h (sncR h)) ⟨0,false,0⟩).1 else (QdI n 300 (cntH h (sncR h)) ⟨0,false,0⟩).1
theorem col_ok{h:Hp}{BL:List (List Itm)}(H:QG h BL)(hq:h.seq+256<=4294967294)(n:Int) :
  (∃ BL1,QG (Qcn h n) BL1)/\(Qcn h n).config=h.config/\(Qcn h n).dead=h.dead/\h.seq<=(Qcn h n).seq/\(Qcn h n).seq<=h.seq+256:=by
 have H1:QG (cntH h (sncR h)) BL:=H.cnt _ _ _
 unfold Qcn
 split
 ·~rnd_inv H1 hq 0
 ·~rnd_inv H1 hq n
noncomputable def ddH(h:Hp):Hp:=⟨h.config,h.space,h.belts,h.seq,h.sets,h.roots,h.since,h.stats,true⟩
noncomputable def QdX(h:Hp)(r d:Int):Hp×Int×Int :=
  if h.dead=true then (hp0,0,19)
  else if (Qd3 r d).2=0 then
    (if (Xq h (1+r+d)).1=3 then
      (if (Xq (Qcn h (1+r+d)) (1+r+d)).1=3 then (ddH (Qcn h (1+r+d)),0,18)
       else (Qfi (Qcn h (1+r+d)) (Xq (Qcn h (1+r+d)) (1+r+d)).1 (Xq (Qcn h (1+r+d)) (1+r+d)).2 r d,QfS (Qcn h (1+r+d)) (Xq (Qcn h (1+r+d)) (1+r+d)).2 r d,0))
     else (Qfi h (Xq h (1+r+d)).1 (Xq h (1+r+d)).2 r d,QfS h (Xq h (1+r+d)).2 r d,0))
  else (hp0,0,(Qd3 r d).2)
abbrev AlcT:=ByteArray×List Rul×Int×Int×List Int×List Fe×List (List Inc)×Int×List Qe×List Bool×List Int×Int×Int×Int×Int×Int×Int×Int×Int×Int×Int×Bool×Int×Inc
def mkA(h:Hp)(k:Int)(i:Inc):AlcT:=(h.config.name,h.config.rules,h.config.full,h.space.sh,h.space.ws,h.space.fs,h.belts,h.seq,h.sets,h.roots.used,h.roots.refs,h.since,h.stats.allocated,h.stats.objects,h.stats.collections,h.stats.steps,h.stats.rounds,h.stats.condemned,h.stats.copied,h.stats.entries,h.stats.work,h.dead,k,i)
section
variable{h:Hp}{BL:List (List Itm)}{kind:Int}{x:Itm}{r d:Nat}
theorem Xt.grow(X:Xt h BL kind x r d):XN h.space x.i ((1+r+d:Nat):Int)=some (grw h.space x.i ((1+r+d:Nat):Int),QfS h x.i r d,0,Zd h.space x.i ((1+r+d:Nat):Int)):=by
 rw [grow_spec X.H.sp.ok X.it.inc ⟨Oo,by have:=X.r15;have:=X.d32;omega⟩,if_pos X.room,X.ats]
 rfl
theorem Xt.hd(X:Xt h BL kind x r d):Qd4 (r:Int) d:=by
 have:=X.r15
 have:=X.d32
 unfold Qd4
 omega
theorem Xt.make(X:Xt h BL kind x r d):Jy ⟨h.space.sh,h.space.ws,Zd h.space x.i ((1+r+d:Nat):Int)⟩ (QfS h x.i r d) r d=some (0,(putS h x.i r d).ws):=by
 have hr:=X.room'
 have hgk:=X.gk
 have hg:=(go_adr hgk.sp.shp hgk.inc.toIncC.ch hgk.inc.toIncC.own (p:=x.i.words.toNat) (k:=r+d) (by show _<(QaA h x r d).fr.length*szS h.space;omega)).trans (if_pos (show x.i.words.toNat+(r+d)<(QaA h x r d).fr.length*szS h.space by omega))
 have hlt:=Jo X.own.1.shp X.own.2.2.inc.ch.lt (p:=x.i.words.toNat) (by rw [X.z];omega)
 have hsm:=X.own.1.shp.small
 have hm:MkE ⟨h.space.sh,h.space.ws,Zd h.space x.i ((1+r+d:Nat):Int)⟩ (QfS h x.i r d) r d=0:=by
  unfold MkE
  rw [if_pos X.hd,X.ats,show ((r:Int)+d)=((r+d:Nat):Int) by push_cast;rfl]
  ~congrArg Prod.snd hg
 rw [make_c hgk.sp.shp hgk.sp.nxIn (by rw [X.ats];rw [X.z] at hlt;unfold I64;omega),if_pos hm]
 unfold putS
 rw [X.cast]
theorem Xt.add(X:Xt h BL kind x r d)(e:kind=2):XM h.belts (grw h.space x.i ((1+r+d:Nat):Int))=some (addB h.belts (grw h.space x.i ((1+r+d:Nat):Int)),0):=by
 have hi:=X.i
 have hb0:=X.H.b0
 rcases X.how with ⟨e1,_⟩ | ⟨_,ex⟩
 ·omega
 have hbelt:(grw h.space x.i ((1+r+d:Nat):Int)).belt=0:=hi.2.1.trans (by rw [ex])
 &add11_c X.H.bsz (by rw [hbelt];omega) λy hy=>?_
 ð⟨z,hz,e1,_⟩:=X.H.yng hy
 have:=X.H.sq z hz
 show y.seq<(QaA h x r d).i.seq
 rw [hi.1,ex,<- e1]
 ~this
theorem Xt.rep(X:Xt h BL kind x r d)(e:¬ kind=2):Q4 h.belts (grw h.space x.i ((1+r+d:Nat):Int))=some (repB h.belts (grw h.space x.i ((1+r+d:Nat):Int)),0):=by
 have hi:=X.i
 rcases X.how with ⟨_,hx⟩ | ⟨e1,ex⟩
 ·ð⟨q,hq,hxq⟩:=Vb.1 hx
  ð⟨b,hb,rfl⟩:=UB hq
  have hbelt:=X.H.blt b hb x hxq
  have hgb:(grw h.space x.i ((1+r+d:Nat):Int)).belt=(b:Int):=hi.2.1.trans hbelt
  have hget:h.belts[b]?=some (BL[b].map Itm.i):=by rw [X.H.bl,Wh,Wa hb];rfl
  ð⟨hl,hge⟩:=Wq.1 hget
  &QfP X.H.bsz (by rw [hgb];omega) (by rw [hgb];~hl) ?_ ?_
  ·have:=(X.H.asc _ (Wc hb)).imp λ{a b:Itm} (h:a.i.seq<b.i.seq)=>(Int.ne_of_lt h)
   simp only [hgb,Wd]
   rw [hge,Vc]
   ~this
  ·&⟨x.i,?_,hi.1.symm⟩
   simp only [hgb,Wd]
   rw [hge]
   ~W0 hxq
 ·~absurd e1 e
end
set_option maxHeartbeats 1000000 in
theorem alloc_c{h:Hp}{BL:List (List Itm)}(H:QG h BL)(hq:h.seq+257<=4294967294)(p1 p2:Int):JN h p1 p2=some (QdX h p1 p2):=by
  &Gd.eq ?_
  unfold JN
  &.ite (λhd=>.some (by unfold QdX;rw [if_pos hd])) λhd=>?_
  &.call (live_c p1 p2) ?_
  &.ite (λhl=>?_) λhl=>.some (by unfold QdX;rw [if_neg hd,if_neg hl])
  have hok:Qd4 p1 p2:=by
    have hl:(Qd3 p1 p2).2=0:=hl
    unfold Qd3 at hl
    split at hl
    · assumption
    · cases hl
  have hok':=hok
  unfold Qd4 at hok'
  obtain ⟨r,rfl⟩:∃ r:Nat,p1=r:=⟨p1.toNat,Oo⟩
  obtain ⟨d,rfl⟩:∃ d:Nat,p2=d:=⟨p2.toNat,Oo⟩
  have hr:r<=15:=by omega
  have hdd:d<=32:=by omega
  have en:w64 (w64 (1+(r:Int))+d)=((1+r+d:Nat):Int):=by
    rw [Qd (n:=1+(r:Int)) Oo,Qd Oo];push_cast;rfl
  have en2:(1+(r:Int)+d)=((1+r+d:Nat):Int):=by push_cast;rfl
  have hn:1<=((1+r+d:Nat):Int)/\((1+r+d:Nat):Int)<=1000:=by omega
  rw [en]
  &.call (Qb0 H) ?_
  &.call (plan_c H hn) ?_
  have hal:QdX h r d=if (Xq h ((1+r+d:Nat):Int)).1=3 then
      (if (Xq (Qcn h ((1+r+d:Nat):Int)) ((1+r+d:Nat):Int)).1=3 then (ddH (Qcn h ((1+r+d:Nat):Int)),0,18)
       else (Qfi (Qcn h ((1+r+d:Nat):Int)) (Xq (Qcn h ((1+r+d:Nat):Int)) ((1+r+d:Nat):Int)).1 (Xq (Qcn h ((1+r+d:Nat):Int)) ((1+r+d:Nat):Int)).2 r d,QfS (Qcn h ((1+r+d:Nat):Int)) (Xq (Qcn h ((1+r+d:Nat):Int)) ((1+r+d:Nat):Int)).2 r d,0))
     else (Qfi h (Xq h ((1+r+d:Nat):Int)).1 (Xq h ((1+r+d:Nat):Int)).2 r d,QfS h (Xq h ((1+r+d:Nat):Int)).2 r d,0):=by
    have hl:(Qd3 (r:Int) d).2=0:=hl
    unfold QdX
    rw [if_neg hd,if_pos hl,en2]
  have tail:∀ (h':Hp),(∃ BL1,QG h' BL1)->h'.seq<=h.seq+256->(Xq h ((1+r+d:Nat):Int)).1=3->Qcn h ((1+r+d:Nat):Int)=h' ->
      Gd (λ(z:AlcT ⊕ (Hp×Int×Int))=>(∃ h1 BL1 k x1,z = .inl (mkA h1 k x1.i)/\Xt h1 BL1 k x1 r d/\QdX h r d=(Qfi h1 k x1.i r d,QfS h1 x1.i r d,0))\/z = .inr (QdX h r d))
        ((QL h'.config h'.space h'.belts h'.seq ((1+r+d:Nat):Int)).bind λv19 =>
          if v19.1=3 then (some (.inr (ddH h',0,18))) else some (.inl (mkA h' v19.1 v19.2))):=by
    intro h' ⟨BL1,H1⟩ hs h3 e
    &.call (plan_c H1 hn) ?_
    rw [if_pos h3,e] at hal
    &.ite (λk=>.some (.inr (by rw [hal,if_pos k]))) λk=>?_
    ð⟨x1,e1,X⟩:=plan_x H1 hr hdd Oo (k:=(Xq h' ((1+r+d:Nat):Int)).1) (i:=(Xq h' ((1+r+d:Nat):Int)).2) rfl k
    &.some (.inl ⟨h',BL1,_,x1,by rw [e1],X,by rw [hal,if_neg k,e1]⟩)
  ð⟨c1,c2,c3,c4,c5⟩:=col_ok H Oo ((1+r+d:Nat):Int)
  &Gd.bndR (P:=λ(z:AlcT ⊕ (Hp×Int×Int))=>(∃ h1 BL1 k x1,z = .inl (mkA h1 k x1.i)/\Xt h1 BL1 k x1 r d/\QdX h r d=(Qfi h1 k x1.i r d,QfS h1 x1.i r d,0))\/z = .inr (QdX h r d)) ?_ (λb hP=>?_) (λr' hP=>?_)
  · &.ite (λh3=>?_) λh3=>?_
    · have h3:(Xq h ((1+r+d:Nat):Int)).1=3:=h3
      &.call (Qc2 H.cfg) ?_
      by_cases hc:CplP h.config
      · have es:sncR h=w64 (h.since+1):=by unfold sncR;rw [if_pos hc]
        &.pos (J5 hc) (.call (Qc2 H.cfg) (.pos (J5 hc) (.ite (λhf=>?_) λhf=>?_)))
        · have ec:Qcn h ((1+r+d:Nat):Int)=(QdI 0 300 (cntH h (sncR h)) ⟨0,false,0⟩).1:=by unfold Qcn;rw [if_pos ⟨hc,by rw [es];~hf⟩]
          rw [full2_eq]
          have:=full_c (H.cnt (w64 (h.since+1)) ⟨h.stats.allocated,h.stats.objects,w64 (h.stats.collections+1),h.stats.steps,h.stats.rounds,h.stats.condemned,h.stats.copied,h.stats.entries,h.stats.work⟩ h.dead) (by show h.seq+256<=_;omega)
          &.call this (tail _ ?_ ?_ h3 ?_)
          · rw [es] at ec;rw [ec] at c1;~c1
          · rw [es] at ec;rw [ec] at c5;~c5
          · rw [es] at ec;~ec
        · have ec:Qcn h ((1+r+d:Nat):Int)=(QdI ((1+r+d:Nat):Int) 300 (cntH h (sncR h)) ⟨0,false,0⟩).1:=by unfold Qcn;rw [if_neg λk=>hf (by have:=k.2;rw [es] at this;~this)]
          rw [for2_eq]
          have:=for_c (H.cnt (w64 (h.since+1)) ⟨h.stats.allocated,h.stats.objects,w64 (h.stats.collections+1),h.stats.steps,h.stats.rounds,h.stats.condemned,h.stats.copied,h.stats.entries,h.stats.work⟩ h.dead) (by show h.seq+256<=_;omega) hn
          &.call this (tail _ ?_ ?_ h3 ?_)
          · rw [es] at ec;rw [ec] at c1;~c1
          · rw [es] at ec;rw [ec] at c5;~c5
          · rw [es] at ec;~ec
      · have es:sncR h=h.since:=by unfold sncR;rw [if_neg hc]
        have ec:Qcn h ((1+r+d:Nat):Int)=(QdI ((1+r+d:Nat):Int) 300 (cntH h h.since) ⟨0,false,0⟩).1:=by unfold Qcn;rw [if_neg λk=>hc k.1,es]
        &.neg (by rw [QE];~hc) (.call (Qc2 H.cfg) (.neg (by rw [QE];~hc) ?_))
        rw [for2_eq]
        have:=for_c (H.cnt h.since ⟨h.stats.allocated,h.stats.objects,w64 (h.stats.collections+1),h.stats.steps,h.stats.rounds,h.stats.condemned,h.stats.copied,h.stats.entries,h.stats.work⟩ h.dead) (by show h.seq+256<=_;omega) hn
        &.call this (tail _ ?_ ?_ h3 ec)
        · rw [ec] at c1;~c1
        · rw [ec] at c5;~c5
    · have h3:¬ (Xq h ((1+r+d:Nat):Int)).1=3:=h3
      ð⟨x1,e1,X⟩:=plan_x H hr hdd Oo (k:=(Xq h ((1+r+d:Nat):Int)).1) (i:=(Xq h ((1+r+d:Nat):Int)).2) rfl h3
      &.some (.inl ⟨h,BL,_,x1,by rw [e1];rfl,X,by rw [hal,if_neg h3,e1]⟩)
  · rcases hP with ⟨h1,BL1,k,x1,e,X,ha⟩ | hP
    · injection e with e
      subst e
      rw [ha]
      &.call X.grow (.pos X.gk.len (.pos rfl ?_))
      &.call X.make (.pos (by rw [X.space];show (Qde h1.space x1 r d).ws.length=_;~Qft _ _ _ _) ?_)
      &.ite (λk2=>?_) λk2=>?_
      · have k2:k=2:=k2
        &.call (X.add k2) (.some ?_)
        unfold Qfi
        rw [if_pos k2,if_pos k2,en2]
        rfl
      · have k2:¬ k=2:=k2
        &.call (X.rep k2) (.some ?_)
        unfold Qfi
        rw [if_neg k2,if_neg k2,en2]
        rfl
    · cases hP
  · rcases hP with ⟨h1,BL1,k,x1,e,_⟩ | hP
    · cases e
    · injection hP with hP
theorem wAt_q(s:Sp)(q:Nat):wAt s (q:Int)=(s.ws[q]?).getD 0:=by
 by_cases h:q<s.ws.length
 ·rw [Jk (Wa h),Wa h];rfl
 ·rw [Wg Oo]
  unfold wAt
  rw [dif_neg (by rw [Wd];~λk=>h k.2)];rfl
theorem QG.hands{h:Hp}{BL:List (List Itm)}(H:QG h BL){R:Rts}(r1:Qb6 R)(r2:∀ i∈Zv R,1<=QD R i/\∃ r d,ObjZ (szS h.space) BL.flatten (QD R i-1).toNat r d)(s:Int)(t:Sts)(b:Bool):QG ⟨h.config,h.space,h.belts,h.seq,h.sets,R,s,t,b⟩ BL:=by
 ð⟨a1,a2,a3,a4,a5,a6,a7,a8,a9,b1,b2,b3,b4,b5,b6,b7,b8⟩:=H
 ~⟨a1,a2,a3,a4,a5,a6,a7,a8,a9,r1,r2,b3,b4,b5,b6,b7,b8⟩
def takR(R:Rts)(i:Nat)(w:Int):Rts:=⟨R.used.set i true,R.refs.set i w⟩
def drpR(R:Rts)(i:Nat):Rts:=⟨R.used.set i false,R.refs.set i 0⟩
theorem refAt_set{us:List Bool}{rs:List Int}{i j:Nat}{w:Int}:QD ⟨us,rs.set i w⟩ j=if i=j/\i<rs.length then w else (rs[j]?).getD 0:=by
 unfold QD
 rw [Ul]
 by_cases e:i=j
 ·rw [if_pos e]
  by_cases hl:i<rs.length
  ·rw [if_pos hl,if_pos ⟨e,hl⟩];rfl
  ·rw [if_neg hl,if_neg λk=>hl k.2,Wg Oo]
 ·rw [if_neg e,if_neg λk=>e k.1]
theorem tak_ok{R:Rts}(h:Qb6 R){i:Nat}{w:Int}(hi:i<32)(hw:U64 w):Qb6 (takR R i w):=by
 have h1:=h.u
 have h2:=h.v
 &⟨by unfold takR;rw [Wv];~h1,by unfold takR;rw [Wv];~h2,λj hj hj'=>?_,λx hx=>?_⟩
 ·have hj:j<(R.used.set i true).length:=hj
  have hj':j<(R.refs.set i w).length:=hj'
  show (R.used.set i true)[j]=false->(R.refs.set i w)[j]=0
  rw [Uo,Uo]
  intro k
  split at k
  ·cases k
  ·rename_i hne
   rw [if_neg hne]
   ~h.z j (by rw [Wv] at hj;~hj) (by rw [Wv] at hj';~hj') k
 ·rcases W4 hx with k | k
  ·~h.w x k
  ·rw [k];~hw
theorem drp_ok{R:Rts}(h:Qb6 R){i:Nat}(hi:i<32):Qb6 (drpR R i):=by
 have h1:=h.u
 have h2:=h.v
 &⟨by unfold drpR;rw [Wv];~h1,by unfold drpR;rw [Wv];~h2,λj hj hj'=>?_,λx hx=>?_⟩
 ·have hj:j<(R.used.set i false).length:=hj
  have hj':j<(R.refs.set i 0).length:=hj'
  show (R.used.set i false)[j]=false->(R.refs.set i 0)[j]=0
  rw [Uo,Uo]
  intro k
  split at k
  ·rename_i he
   rw [if_pos he]
  ·rename_i hne
   rw [if_neg hne]
   ~h.z j (by rw [Wv] at hj;~hj) (by rw [Wv] at hj';~hj') k
 ·rcases W4 hx with k | k
  ·~h.w x k
  ·rw [k];unfold U64;omega
theorem tak_live{R:Rts}(h:Qb6 R){i j:Nat}{w:Int}(hi:i<32):j∈Zv (takR R i w)<->j=i\/j∈Zv R:=by
 have h1:=h.u
 rw [Xs,Xs]
 unfold takR
 dsimp only
 rw [Ul]
 by_cases e:i=j
 ·rw [if_pos e,if_pos Oo];simp [e]
 ·rw [if_neg e]
  ~⟨.inr,λk=>k.elim (λq=>absurd q.symm e) id⟩
theorem drp_live{R:Rts}(h:Qb6 R){i j:Nat}(hi:i<32):j∈Zv (drpR R i)<->j≠i/\j∈Zv R:=by
 have h1:=h.u
 rw [Xs,Xs]
 unfold drpR
 dsimp only
 rw [Ul]
 by_cases e:i=j
 ·rw [if_pos e,if_pos Oo];simp [e]
 ·rw [if_neg e]
  ~⟨λk=>⟨λq=>e q.symm,k⟩,λk=>k.2⟩
theorem tak_ref{R:Rts}(h:Qb6 R){i j:Nat}{w:Int}(hi:i<32):QD (takR R i w) j=if j=i then w else QD R j:=by
 have h2:=h.v
 unfold takR
 rw [refAt_set]
 by_cases e:j=i
 ·rw [if_pos e,if_pos ⟨e.symm,Oo⟩]
 ·rw [if_neg e,if_neg λk=>e k.1.symm];rfl
theorem drp_ref{R:Rts}{i j:Nat}(e:j≠i):QD (drpR R i) j=QD R j:=by
 unfold drpR
 rw [refAt_set,if_neg λk=>e k.1.symm];rfl
theorem QG.take{h:Hp}{BL:List (List Itm)}(H:QG h BL){i:Nat}(hi:i<32){w:Int}(hw:1<=w)(hu:U64 w){r d:Nat}(ho:ObjZ (szS h.space) BL.flatten (w-1).toNat r d)(s:Int)(t:Sts)(b:Bool):QG ⟨h.config,h.space,h.belts,h.seq,h.sets,takR h.roots i w,s,t,b⟩ BL:=by
 &H.hands (tak_ok H.rts hi hu) (λj hj=>?_) s t b
 rw [tak_ref H.rts hi]
 by_cases e:j=i
 ·rw [if_pos e];~⟨hw,r,d,ho⟩
 ·rw [if_neg e]
  ~H.roots j (((tak_live H.rts hi).1 hj).resolve_left e)
theorem QG.dropH{h:Hp}{BL:List (List Itm)}(H:QG h BL){i:Nat}(hi:i<32)(s:Int)(t:Sts)(b:Bool):QG ⟨h.config,h.space,h.belts,h.seq,h.sets,drpR h.roots i,s,t,b⟩ BL:=by
 &H.hands (drp_ok H.rts hi) (λj hj=>?_) s t b
 ð⟨k1,k2⟩:=(drp_live H.rts hi).1 hj
 rw [drp_ref k1]
 ~H.roots j k2
structure FldX(h:Hp)(BL:List (List Itm))(x:Itm)(p r d k:Nat):Prop where
 H:QG h BL
 hx:x∈BL.flatten
 hp:(p,r,d)∈obs 0 x.os
 k1:1<=k
 k2:k<=r+d
section
variable{h:Hp}{BL:List (List Itm)}{x:Itm}{p r d k:Nat}
def QeO(s:Sp)(x:Itm)(p k:Nat)(w:Int):Sp:=⟨s.sh,s.ws.set (adr (szS s) x.fr (p+k)) w,s.fs⟩
theorem FldX.lt(X:FldX h BL x p r d k):adr (szS h.space) x.fr (p+k)<h.space.ws.length:=by
 have hX:=X.H.sp.each x X.hx
 have b1:=Itm.posOk X.H.sp.ok hX X.hp
 have:=X.k2
 ~Jo X.H.sp.ok.shp hX.inc.ch.lt (p:=p+k) Oo
theorem FldX.sp(X:FldX h BL x p r d k){w:Int}(hw:U64 w):Qck (QeO h.space x p k w) BL.flatten:=by
 have hX:=X.H.sp.each x X.hx
 have hlt:=X.lt
 have hok:ZL (QeO h.space x p k w):=by
  &sp_ws X.H.sp.ok (by rw [Wv]) λj hj ho a h1 h2 e=>?_
  rw [Uo]
  by_cases ea:adr (szS h.space) x.fr (p+k)=a
  ·have hf:=(Z2 X.H.sp.ok hX X.hp (k:=k) X.k2 (q:=(a:Int)) Oo (by rw [Wd,ea])).1
   have hfe:X7 h.space (a:Int)=j:=by unfold X7;rw [Wd];~e
   rw [hfe] at hf
   ~absurd ho (hX.inc.toIncC.own j hf hj)
  ·rw [if_neg ea]
 &⟨hok,⟨λy hy=>?_,X.H.sp.w.2⟩,λy hy=>?_,X.H.sp.seqs,X.H.sp.all⟩
 ·rcases W4 hy with q | q
  ·~X.H.sp.w.1 y q
  ·rw [q];~hw
 ·have hY:=X.H.sp.each y hy
  have hi:=hY.inc
  &⟨{ hi.toIncC with wd:=?_,len:=hi.len },?_⟩
  ·have:=hi.wd
   show 0<=y.i.words/\y.i.words<=((h.space.ws.set _ w).length:Int)
   rw [Wv];~this
  ·&Lay.heads (z:=szS h.space) (ws:=h.space.ws) hY.lay λo ho=>?_
   show (h.space.ws.set (adr (szS h.space) x.fr (p+k)) w)[adr (szS h.space) y.fr o.1]?=_
   have hne:adr (szS h.space) x.fr (p+k)≠adr (szS h.space) y.fr o.1:=λe=>by
    have:=obj_inj X.H X.hx hy X.hp (p':=o.1) (r':=o.2.1) (d':=o.2.2) (k':=0) ho X.k2 Oo e
    have:=X.k1
    omega
   rw [WC hne]
   ~(hY.lay.get o ho).2.2.2.2
theorem FldX.wne(X:FldX h BL x p r d k){w:Int}{q:Nat}(hq:q≠adr (szS h.space) x.fr (p+k)):wAt (QeO h.space x p k w) (q:Int)=wAt h.space (q:Int):=by
 rw [wAt_q,wAt_q]
 unfold QeO
 dsimp only
 rw [WC hq.symm]
theorem FldX.weq(X:FldX h BL x p r d k){w:Int}:wAt (QeO h.space x p k w) ((adr (szS h.space) x.fr (p+k):Nat):Int)=w:=by
 rw [wAt_q]
 unfold QeO
 dsimp only
 rw [WD X.lt];rfl
theorem FldX.nslot(X:FldX h BL x p r d k)(hk:r<k){q:Nat}(hq:QaB (szS h.space) BL.flatten q):q≠adr (szS h.space) x.fr (p+k):=by
 ð⟨y,hy,p',r',d',hp',k',j1,j2,rfl⟩:=hq
 intro e
 have:=obj_inj X.H hy X.hx hp' X.hp Oo X.k2 e
 omega
theorem FldX.slot(X:FldX h BL x p r d k)(hk:k<=r):QaB (szS h.space) BL.flatten (adr (szS h.space) x.fr (p+k)):=⟨x,X.hx,p,r,d,X.hp,k,X.k1,hk,rfl⟩
theorem fldS_need{s:Sp}{x:Itm}{p k:Nat}{w q v:Int}:QaL (QeO s x p k w) q v<->QaL s q v:=by
 unfold QaL QeO
 dsimp only
 rw [Wv]
 ~Iff.rfl
theorem FldX.data(X:FldX h BL x p r d k)(hk:r<k){w:Int}(hw:U64 w)(s:Int)(t:Sts)(b:Bool):QG ⟨h.config,QeO h.space x p k w,h.belts,h.seq,h.sets,h.roots,s,t,b⟩ BL:=by
 have hsp:=X.sp hw
 have hw':∀ q,QaB (szS h.space) BL.flatten q->wAt (QeO h.space x p k w) (q:Int)=wAt h.space (q:Int):=λq hq=>X.wne (X.nslot hk hq)
 ð⟨a1,a2,a3,a4,a5,a6,a7,a8,a9,b1,b2,b3,b4,b5,b6,b7,b8⟩:=X.H
 &⟨a1,a2,a3,hsp,a5,a6,a7,a8,a9,b1,b2,λq hq=>?_,b4,b5,b6,λq hq hn=>?_,b8⟩
 ·have hq:QaB (szS h.space) BL.flatten q:=hq
  show RefW _ _ (wAt (QeO h.space x p k w) (q:Int))
  rw [hw' q hq];~b3 q hq
 ·have hq:QaB (szS h.space) BL.flatten q:=hq
  have hn:QaL (QeO h.space x p k w) (q:Int) (wAt (QeO h.space x p k w) (q:Int)):=hn
  show InS h.sets (X7 h.space (q:Int):Int) (X7 h.space (wAt (QeO h.space x p k w) (q:Int)-1):Int) (q:Int)
  rw [hw' q hq] at hn ⊢
  ~b7 q hq (fldS_need.1 hn)
noncomputable def refH(h:Hp)(x:Itm)(p k:Nat)(w:Int):Hp:=⟨h.config,QeO h.space x p k w,h.belts,h.seq,QfW (QeO h.space x p k w) h.sets ((adr (szS h.space) x.fr (p+k):Nat):Int) w,h.roots,h.since,h.stats,h.dead⟩
theorem FldX.ref(X:FldX h BL x p r d k)(hk:k<=r){w:Int}(hw:U64 w)(hr:RefW (szS h.space) BL.flatten w):QG (refH h x p k w) BL:=by
 have hsp:=X.sp hw
 have hs0:=X.slot hk
 have hX:=X.H.sp.each x X.hx
 ð⟨n1,n2,n3⟩:=noteK_ok hsp.ok X.H.sok X.H.sin ((adr (szS h.space) x.fr (p+k):Nat):Int) w
 have hw':∀ q:Nat,wAt (QeO h.space x p k w) (q:Int)=if (q:Nat)=adr (szS h.space) x.fr (p+k) then w else wAt h.space (q:Int):=λq=>by
  split
  ·rename_i e;rw [e];~X.weq
  ·rename_i e;~X.wne e
 have hH:=X.H
 ð⟨a1,a2,a3,a4,a5,a6,a7,a8,a9,b1,b2,b3,b4,b5,b6,b7,b8⟩:=X.H
 &⟨a1,a2,a3,hsp,a5,a6,a7,a8,a9,b1,b2,λq hq=>?_,n1,n2,λf t q hi=>?_,λq hq hn=>?_,b8⟩
 ·have hq:QaB (szS h.space) BL.flatten q:=hq
  show RefW _ _ (wAt (QeO h.space x p k w) (q:Int))
  rw [hw' q]
  split
  ·~hr
  ·~b3 q hq
 ·rcases (n3 f t q).1 hi with hi | ⟨hn,rfl,rfl,rfl⟩
  ·~b6 f t q hi
  ·&⟨by rw [Wd];~hs0,rfl,?_⟩
   rcases hr with hr | ⟨hr1,r',d',ho⟩
   ·~absurd hr hn.1.1
   ·ð⟨g1,g2⟩:=obj_owned hH.sp ho (q:=w-1) Oo rfl
    ð⟨w1,w2⟩:=fs_at (show ((X7 (QeO h.space x p k w) (w-1):Nat):Int).toNat=X7 h.space (w-1) from by rw [Wd];rfl) g1 g2
    ~⟨w1,Oo,w2⟩
 ·have hq:QaB (szS h.space) BL.flatten q:=hq
  have hn:QaL (QeO h.space x p k w) (q:Int) (wAt (QeO h.space x p k w) (q:Int)):=hn
  show InS (QfW (QeO h.space x p k w) h.sets ((adr (szS h.space) x.fr (p+k):Nat):Int) w) (X7 h.space (q:Int):Int) (X7 h.space (wAt (QeO h.space x p k w) (q:Int)-1):Int) (q:Int)
  by_cases e:q=adr (szS h.space) x.fr (p+k)
  ·have ew:wAt (QeO h.space x p k w) (q:Int)=w:=by rw [e];~X.weq
   rw [ew] at hn ⊢
   &(n3 _ _ _).2 (.inr ⟨by rw [e] at hn;~hn,by rw [e];rfl,rfl,by rw [e]⟩)
  ·have ew:=X.wne (w:=w) e
   rw [ew] at hn ⊢
   ~(n3 _ _ _).2 (.inl (b7 q hq (fldS_need.1 hn)))
end
theorem valid20_c{R:Rts}(h:Qb6 R):XZ R=some true:=by
 have h1:=h.u
 have h2:=h.v
 &Gd.eq ?_
 unfold XZ
 &.pos Oo (.pos Oo ?_)
 &Gd.bndR (P:=λz=>z = .inl ()) ?_ (λ_ hP=>.some rfl) (λr hP=>by cases hP)
 &Gd.find R.used (λ_=>False) Oo (λi hi hn=>?_) (λ_=>rfl)
 &.atN hi (.ite (λk=>.some (.inl ⟨id,rfl⟩)) λk=>?_)
 have k:¬ R.used[i]=true:=k
 have hz:=h.z i hi Oo (by simpa using k)
 &.atN Oo (.pos hz (.some (.inl ⟨id,rfl⟩)))
def frsI(R:Rts):Option Nat:=(List.range R.used.length).find? λi=>R.used[i]? == some false
def takE(R:Rts)(w:Int):Rts×Int×Int:=match frsI R with
 | some i=>(takR R i w,((i+1:Nat):Int),0)
 | none=>(⟨[],[]⟩,0,15)
theorem take20_c{R:Rts}(h:Qb6 R)(w:Int):Jr R w=some (takE R w):=by
 have h1:=h.u
 have h2:=h.v
 &Gd.eq ?_
 unfold Jr
 &.call (valid20_c h) (.pos rfl ?_)
 &Gd.bndR (P:=λz=>(z = .inl ()/\frsI R=none)\/z = .inr (takE R w)) ?_ (λ_ hP=>?_) (λr hP=>?_)
 ·&Gd.find R.used (λx=>x=false) Oo (λi hi hn=>?_) (λhn=>.inl ⟨rfl,?_⟩)
  ·&.atN hi (.ite (λk=>.some (.inl ⟨by simp [show R.used[i]=true from k],rfl⟩)) λk=>?_)
   have k:¬ R.used[i]=true:=k
   have k2:R.used[i]=false:=by simpa using k
   &.call (copy20_c Oo Oo) (.atN hi (.atN Oo (.some (.inr ⟨k2,_,rfl,.inr ?_⟩))))
   have e:frsI R=some i:=by
    unfold frsI
    rw [YF]
    &⟨by simp [Wa hi,k2],Wz.2 hi,λj hj=>?_⟩
    have:=hn j Oo hj
    simp [Wa (show j<R.used.length by omega),this]
   unfold takE takR
   rw [e,Qd Oo,Wd]
   rfl
  ·unfold frsI
   rw [U9]
   intro i hi
   rw [Wz] at hi
   have:=hn _ (Wc hi)
   simp [Wa hi,this]
 ·rcases hP with ⟨_,hP⟩ | hP
  ·&.some ?_
   unfold takE
   rw [hP]
  ·cases hP
 ·rcases hP with ⟨hP,_⟩ | hP
  ·cases hP
  ·injection hP with hP
theorem frsI_some{R:Rts}(h:Qb6 R)(hf:¬ (Zv R).length=32):∃ i,frsI R=some i/\i<32/\R.used[i]?=some false:=by
 have h1:=h.u
 cases e:frsI R with
 | none =>
  exfalso
  apply hf
  unfold frsI at e
  rw [U9] at e
  have:Zv R=List.range R.used.length:=by
   unfold Zv
   rw [VY]
   intro i hi
   have h2:=e i hi
   rw [Wz] at hi
   rw [Wa hi] at h2 ⊢
   cases hb:R.used[i] with
   | true=>rfl
   | false=>rw [hb] at h2;~absurd rfl h2
  rw [this,WV,h1]
 | some i =>
  unfold frsI at e
  have h2:=List.find?_some e
  have h3:=Wz.1 (Ub e)
  ~⟨i,rfl,Oo,by simpa using h2⟩
theorem full28_c{h:Hp}(hr:Qb6 h.roots):Jq h=some (decide ((Zv h.roots).length=32)):=by
 have h1:=hr.u
 unfold Jq
 rw [live20_c h.roots Oo]
 simp only [WQ,Wb]
 congr 1
 rw [decide_eq_decide]
 omega
def Qfu(R:Rts)(a:Int)(nz:Bool):Int:=if a=0 then (if nz=true then 16 else 0) else if a<0\/32<a then 14 else if R.used[(a-1).toNat]?=some true then 0 else 14
theorem Qc1{h:Hp}(hr:Qb6 h.roots)(a:Int)(nz:Bool):Zj h a nz=some (Qfu h.roots a nz):=by
 have h1:=hr.u
 &Gd.eq ?_
 unfold Zj Qfu
 &.ite (λh0=>?_) λh0=>?_
 ·rw [if_pos h0]
  ~.ite (λk=>.some (by rw [if_pos k])) λk=>.some (by rw [if_neg k])
 ·rw [if_neg h0]
  &.ite (λk=>.some (by rw [if_pos (.inl k)])) λk1=>.ite (λk=>.some (by rw [if_pos (.inr k)])) λk2=>?_
  rw [if_neg Oo,Qd Oo]
  obtain ⟨i,rfl⟩:∃ i:Nat,a=((i+1:Nat):Int):=⟨(a-1).toNat,Oo⟩
  have hi:i<h.roots.used.length:=by omega
  rw [show ((i+1:Nat):Int)-1=(i:Int) by omega,Wd,Wa hi]
  &.atN hi (.ite (λk=>.some (by rw [if_pos (by rw [show h.roots.used[i]=true from k])])) λk=>.some (by rw [if_neg (by simpa using k)]))
theorem hdlE_0{R:Rts}{a:Int}{nz:Bool}(h:Qfu R a nz=0):(a=0/\nz=false)\/∃ i:Nat,a=((i+1:Nat):Int)/\i<32/\i∈Zv R:=by
 unfold Qfu at h
 split at h
 ·rename_i e
  split at h
  ·cases h
  ·rename_i k;~.inl ⟨e,by simpa using k⟩
 ·split at h
  ·cases h
  ·split at h
   ·rename_i k
    ~.inr ⟨(a-1).toNat,Oo,Oo,Xs.2 k⟩
   ·cases h
def QdH(R:Rts)(a:Int):Int:=if a=0 then 0 else QD R (a-1).toNat
theorem QdK{h:Hp}(hr:Qb6 h.roots){a:Int}(ha:0<=a/\a<=32):QK h a=some (QdH h.roots a):=by
 have h1:=hr.v
 &Gd.eq ?_
 unfold QK QdH
 &.ite (λh0=>.some (by rw [if_pos h0])) λh0=>?_
 rw [if_neg h0,Qd Oo]
 obtain ⟨i,rfl⟩:∃ i:Nat,a=((i+1:Nat):Int):=⟨(a-1).toNat,Oo⟩
 have hi:i<h.roots.refs.length:=by omega
 rw [show ((i+1:Nat):Int)-1=(i:Int) by omega,Wd]
 &.atN hi (.some ?_)
 unfold QD
 rw [Wa hi];rfl
theorem drop20_c{R:Rts}(h:Qb6 R){i:Nat}(hi:i<32)(hl:i∈Zv R):Qaq R ((i+1:Nat):Int)=some (drpR R i,0):=by
 have h1:=h.u
 have h2:=h.v
 have hu:=Xs.1 hl
 rw [Wa Oo] at hu
 injection hu with hu
 have hf:JO R ((i+1:Nat):Int)=some 0:=by
  &Gd.eq ?_
  unfold JO
  &.call (valid20_c h) (.pos rfl (.neg Oo (.neg Oo ?_)))
  rw [Qd Oo,show ((i+1:Nat):Int)-1=(i:Int) by omega]
  ~.atN Oo (.pos hu (.some rfl))
 &Gd.eq ?_
 unfold Qaq
 &.call hf (.pos rfl (.call (copy20_c Oo Oo) ?_))
 rw [Qd Oo,show ((i+1:Nat):Int)-1=(i:Int) by omega]
 ~.atN Oo (.atN Oo (.some rfl))
theorem obs_len':∀ (l:List (Nat×Nat)) (p:Nat),(obs p l).length=l.length
 | [],p=>rfl
 | (r,d) :: l,p=>congrArg (·+1) (obs_len' l _)
theorem Lay.len'{z:Nat}{ws:List Int}{fr:List Nat}:∀ {l:List (Nat×Nat)} {p q:Nat},Lay z ws fr p l q->p+l.length<=q
 | [],p,q,h=>by have:p=q:=h;simp;omega
 | (r,d) :: l,p,q,h=>by
  ð⟨h1,h2,h3,h4⟩:=h
  have:=h4.len'
  rw [WX]
  omega
section
variable{h:Hp}{BL:List (List Itm)}
theorem is_c(H:QG h BL){a:Int}(h0:0<=a){r d:Nat}(ho:ObjZ (szS h.space) BL.flatten a.toNat r d):QaP h a=some true:=by
 ð⟨x,hx,p,hp,e⟩:=ho
 have hX:=H.sp.each x hx
 ð⟨f1,f2⟩:=Z2 H.sp.ok hX hp (k:=0) Oo h0 e
 have hfl:=hX.inc.ch.lt _ f1
 have hg:=(Jm H.sp.ok.shp.sh)
 &Gd.eq ?_
 unfold QaP
 &.neg Oo (.neg Oo (.pos (wu_u _).1 ?_))
 rw [shr_k H.sp.ok.shp.sh a.toNat Oo]
 have hfl:a.toNat/szS h.space<h.space.fs.length:=hfl
 &.atN (i:=a.toNat/szS h.space) hfl ?_
 have how:(h.space.fs[a.toNat/szS h.space]'hfl).ow=x.i.seq:=(hX.inc.toIncC.ow _ hfl).2 f1
 rw [how]
 &.call (find11_c H.bsz _) ?_
 have hfd:=find_uniq H.dist (x:=x.i) (by rw [H.flat];~W0 hx)
 rw [hfd]
 &.pos rfl ?_
 &.call (all_spec H.sp.ok H.sp.w hX) ?_
 &Gd.bndR (P:=λz=>z = .inr true) ?_ (λ_ hP=>by cases hP) (λr hP=>by injection hP with hP)
 have hm:a∈Qdx h.space x:=by
  unfold Qdx
  ~Wk.2 ⟨(p,r,d),hp,by dsimp only;omega⟩
 have hlen:(Qdx h.space x).length<=16384:=by
  unfold Qdx
  rw [Wb,obs_len']
  have h1:=hX.lay.len'
  have h2:=hX.inc.wd
  have h3:=Z7 H.sp.ok
  omega
 &Gd.find (Qdx h.space x) (λy=>y=a) Oo (λi hi hn=>?_) (λhn=>absurd rfl (hn a hm))
 ~.atN hi (.ite (λk=>.some (.inr ⟨k,_,rfl,rfl⟩)) λk=>.some (.inl ⟨k,rfl⟩))
end
theorem rnd_keep{h:Hp}{BL:List (List Itm)}(H:QG h BL)(hq:h.seq+256<=4294967294)(n:Int) :
  (QdI n 300 h ⟨0,false,0⟩).1.roots.used=h.roots.used/\(QdI n 300 h ⟨0,false,0⟩).1.space.sh=h.space.sh/\(QdI n 300 h ⟨0,false,0⟩).1.space.ws.length=h.space.ws.length:=by
 ð⟨h1,BL1,m,k1,s,hm,hk,hs⟩:=rnd_ok H hq n
 have hk:=s.keep
 rcases hs with ⟨e,_⟩ | ⟨e,_⟩ <;> (rw [e];~⟨hk.2.2.2.2.2.1,hk.2.2.2.2.2.2.1,hk.2.2.2.2.2.2.2.1⟩)
theorem col_keep{h:Hp}{BL:List (List Itm)}(H:QG h BL)(hq:h.seq+256<=4294967294)(n:Int) :
  (Qcn h n).roots.used=h.roots.used/\(Qcn h n).space.sh=h.space.sh/\(Qcn h n).space.ws.length=h.space.ws.length:=by
 have H1:QG (cntH h (sncR h)) BL:=H.cnt _ _ _
 unfold Qcn
 split
 ·~rnd_keep H1 hq 0
 ·~rnd_keep H1 hq n
theorem alc_spec{h:Hp}{BL:List (List Itm)}(H:QG h BL)(hq:h.seq+257<=4294967294)(hd:¬ h.dead=true){p1 p2:Int}(hl:(Qd3 p1 p2).2=0) :
  (QdX h p1 p2=(ddH (Qcn h (1+p1+p2)),0,18)) \/
   ∃ r d:Nat,p1=r/\p2=d/\∃ h1 BL1 k x1,Xt h1 BL1 k x1 r d/\QdX h p1 p2=(Qfi h1 k x1.i r d,QfS h1 x1.i r d,0)/\(h1=h\/h1=Qcn h (1+p1+p2)):=by
 have hok:Qd4 p1 p2:=by
  unfold Qd3 at hl
  split at hl
  ·assumption
  ·cases hl
 unfold Qd4 at hok
 obtain ⟨r,rfl⟩:∃ r:Nat,p1=r:=⟨p1.toNat,Oo⟩
 obtain ⟨d,rfl⟩:∃ d:Nat,p2=d:=⟨p2.toNat,Oo⟩
 have en2:(1+(r:Int)+d)=((1+r+d:Nat):Int):=by push_cast;rfl
 ð⟨⟨BL1,c1⟩,c2,c3,c4,c5⟩:=col_ok H Oo ((1+r+d:Nat):Int)
 unfold QdX
 rw [if_neg hd,if_pos hl,en2]
 by_cases h3:(Xq h ((1+r+d:Nat):Int)).1=3
 ·rw [if_pos h3]
  by_cases h4:(Xq (Qcn h ((1+r+d:Nat):Int)) ((1+r+d:Nat):Int)).1=3
  ·rw [if_pos h4];~.inl rfl
  ·rw [if_neg h4]
   ð⟨x1,e1,X⟩:=plan_x c1 (r:=r) (d:=d) Oo Oo Oo (k:=(Xq (Qcn h ((1+r+d:Nat):Int)) ((1+r+d:Nat):Int)).1) (i:=(Xq (Qcn h ((1+r+d:Nat):Int)) ((1+r+d:Nat):Int)).2) rfl h4
   ~.inr ⟨r,d,rfl,rfl,_,BL1,_,x1,X,by rw [e1],.inr rfl⟩
 ·rw [if_neg h3]
  ð⟨x1,e1,X⟩:=plan_x H (r:=r) (d:=d) Oo Oo Oo (k:=(Xq h ((1+r+d:Nat):Int)).1) (i:=(Xq h ((1+r+d:Nat):Int)).2) rfl h3
  ~.inr ⟨r,d,rfl,rfl,_,BL,_,x1,X,by rw [e1],.inl rfl⟩
theorem Xt.word1{h:Hp}{BL:List (List Itm)}{kind:Int}{x:Itm}{r d:Nat}(X:Xt h BL kind x r d):0<=QfS h x.i r d/\QfS h x.i r d<16384:=by
 have hr:=X.room'
 have hlt:=Jo X.own.1.shp X.own.2.2.inc.ch.lt (p:=x.i.words.toNat) (by rw [X.z];omega)
 have:=X.own.1.shp.small
 rw [X.ats]
 rw [X.z] at hlt
 have hlt:adr (szS h.space) (QaA h x r d).fr x.i.words.toNat<(Qde h.space x r d).ws.length:=hlt
 omega
noncomputable def alcD(h:Hp)(r d:Int):Hp×Ans :=
  if (Qd3 r d).2=0 then
    (if (Zv h.roots).length=32 then (h,⟨15,0⟩)
     else if (QdX h r d).2.2=0 then
       (⟨(QdX h r d).1.config,(QdX h r d).1.space,(QdX h r d).1.belts,(QdX h r d).1.seq,(QdX h r d).1.sets,(takE (QdX h r d).1.roots ((QdX h r d).2.1+1)).1,(QdX h r d).1.since,(QdX h r d).1.stats,(QdX h r d).1.dead⟩,⟨0,(takE (QdX h r d).1.roots ((QdX h r d).2.1+1)).2.1⟩)
     else ((QdX h r d).1,⟨(QdX h r d).2.2,0⟩))
  else (h,⟨(Qd3 r d).2,0⟩)
theorem takE_rng(R:Rts)(hu:R.used.length=32)(w:Int):0<=(takE R w).2.1/\(takE R w).2.1<=32:=by
 unfold takE
 cases e:frsI R with
 | none=>~⟨Vo _,by show (0:Int)<=32;omega⟩
 | some i =>
  have:=Wz.1 (Ub e)
  show 0<=((i+1:Nat):Int)/\((i+1:Nat):Int)<=32
  omega
theorem alcD_c{h:Hp}{BL:List (List Itm)}(H:QG h BL)(hq:h.seq+257<=4294967294)(hd:¬ h.dead=true)(o:AOp):JM h o=some (alcD h o.a o.b):=by
 &Gd.eq ?_
 unfold JM alcD
 &.call (live_c _ _) ?_
 &.ite (λhl=>?_) λhl=>?_
 ·have hl:(Qd3 o.a o.b).2=0:=hl
  rw [if_pos hl]
  &.call (full28_c H.rts) ?_
  &.ite (λhf=>?_) λhf=>?_
  ·rw [if_pos (of_decide_eq_true hf)];~.some rfl
  ·rw [if_neg (λk=>hf (decide_eq_true k))]
   &.call (alloc_c H hq _ _) ?_
   &.ite (λh0=>?_) λh0=>?_
   ·have h0:(QdX h o.a o.b).2.2=0:=h0
    rw [if_pos h0]
    rcases alc_spec H hq hd hl with e | ⟨r,d,e1,e2,h1,BL1,k,x1,X,e,_⟩
    ·rw [e] at h0;cases h0
    ·have hr:=X.inv.rts
     have hw:=X.word1
     rw [e]
     dsimp only
     rw [Qd Oo,Xv Oo]
     &.call (take20_c hr _) ?_
     have:=takE_rng (Qfi h1 k x1.i r d).roots hr.u (QfS h1 x1.i r d+1)
     &.some ?_
     rw [Xv Oo]
   ·have h0:¬ (QdX h o.a o.b).2.2=0:=h0
    rw [if_neg h0]
    ~.some rfl
 ·have hl:¬ (Qd3 o.a o.b).2=0:=hl
  rw [if_neg hl]
  ~.some rfl
structure OpOut(h:Hp)(r:Hp×Ans):Prop where
 inv:∃ BL,QG r.1 BL
 cfg:r.1.config=h.config
 ded:r.1.dead=h.dead
 lo:h.seq<=r.1.seq
 hi:r.1.seq<=h.seq+257
theorem OpOut.same{h:Hp}{BL:List (List Itm)}(H:QG h BL)(a:Ans):OpOut h (h,a):=⟨⟨BL,H⟩,rfl,rfl,Vo _,by show h.seq<=h.seq+257;omega⟩
theorem alcD_ok{h:Hp}{BL:List (List Itm)}(H:QG h BL)(hq:h.seq+257<=4294967294)(hd:¬ h.dead=true)(p1 p2:Int):(alcD h p1 p2).2.err=18\/OpOut h (alcD h p1 p2):=by
 unfold alcD
 split
 ·rename_i hl
  split
  ·~.inr (.same H _)
  ·rename_i hf
   rcases alc_spec H hq hd hl with e | ⟨r,d,e1,e2,h1,BL1,k,x1,X,e,hh⟩
   ·rw [e,if_neg (by show ¬ (18:Int)=0;omega)]
    ~.inl rfl
   ·right
    rw [e,if_pos rfl]
    dsimp only
    have hI:=X.inv
    have hw:=X.word1
    have hk:(Qfi h1 k x1.i r d).config=h.config/\(Qfi h1 k x1.i r d).dead=h.dead/\(Qfi h1 k x1.i r d).roots.used=h.roots.used/\h.seq<=h1.seq/\h1.seq<=h.seq+256:=by
     rcases hh with rfl | rfl
     ·~⟨rfl,rfl,rfl,Vo _,Oo⟩
     ·ð⟨_,c2,c3,c4,c5⟩:=col_ok H Oo (1+p1+p2)
      ~⟨c2,c3,(col_keep H Oo (1+p1+p2)).1,c4,c5⟩
    have hlen:¬ (Zv (Qfi h1 k x1.i r d).roots).length=32:=by
     unfold Zv
     rw [hk.2.2.1]
     ~hf
    ð⟨i,ei,hi,_⟩:=frsI_some hI.rts hlen
    have et:(takE (Qfi h1 k x1.i r d).roots (QfS h1 x1.i r d+1)).1=takR (Qfi h1 k x1.i r d).roots i (QfS h1 x1.i r d+1):=by
     unfold takE
     rw [ei]
    have hs:=X.seqE
    &⟨⟨Qa7 BL1 k x1 (QaA h1 x1 r d),?_⟩,hk.1,hk.2.1,?_,?_⟩
    ·rw [et]
     have ez:szS (Qfi h1 k x1.i r d).space=szS h1.space:=by show szS (putS h1 x1.i r d)=_;rw [X.space];~X.z
     ~hI.take hi (w:=QfS h1 x1.i r d+1) Oo (by unfold U64;omega) (r:=r) (d:=d) (by rw [ez,show QfS h1 x1.i r d+1-1=QfS h1 x1.i r d by omega];~X.new) _ _ _
    ·show h.seq<=(Qfi h1 k x1.i r d).seq
     rw [hs];split <;> omega
    ·show (Qfi h1 k x1.i r d).seq<=_
     rw [hs];split <;> omega
 ·~.inr (.same H _)
section
variable{h:Hp}{BL:List (List Itm)}
structure Qbs(h:Hp)(BL:List (List Itm))(i:Nat)(x:Itm)(p r d:Nat):Prop where
 H:QG h BL
 hi:i∈Zv h.roots
 hx:x∈BL.flatten
 hp:(p,r,d)∈obs 0 x.os
 e:QD h.roots i=((adr (szS h.space) x.fr p:Nat):Int)+1
theorem root_x(H:QG h BL){i:Nat}(hi:i∈Zv h.roots):∃ x p r d,Qbs h BL i x p r d:=by
 ð⟨h1,r,d,x,hx,p,hp,e⟩:=H.roots i hi
 ~⟨x,p,r,d,H,hi,hx,hp,Oo⟩
section
variable{i:Nat}{x:Itm}{p r d:Nat}
theorem Qbs.i32(X:Qbs h BL i x p r d):i<32:=by
 have h1:=X.H.rts.u
 ð⟨h2,_⟩:=Wq.1 (Xs.1 X.hi)
 omega
theorem Qbs.pos(X:Qbs h BL i x p r d):p+r+d<x.fr.length*szS h.space/\r<=15/\d<=32/\h.space.ws[adr (szS h.space) x.fr p]?=some (hdW r d):=Itm.posOk X.H.sp.ok (X.H.sp.each x X.hx) X.hp
theorem Qbs.lt(X:Qbs h BL i x p r d):adr (szS h.space) x.fr p<h.space.ws.length/\h.space.ws.length<=16384 :=
 ⟨Jo X.H.sp.ok.shp (X.H.sp.each x X.hx).inc.ch.lt (p:=p) (by have:=X.pos;omega),Z7 X.H.sp.ok⟩
theorem Qbs.look(X:Qbs h BL i x p r d):Qy h.space (QD h.roots i-1)=⟨r,d,0⟩:=by
 have hX:=X.H.sp.each x X.hx
 ð⟨b1,b2,b3,b4⟩:=X.pos
 rw [X.e,show ((adr (szS h.space) x.fr p:Nat):Int)+1-1=((adr (szS h.space) x.fr p:Nat):Int) by omega]
 ~(Qdo X.H.sp.ok hX.inc.ch hX.inc.own b1 b2 b3 b4).1
theorem Qbs.obj(X:Qbs h BL i x p r d):0<=QD h.roots i-1/\ObjZ (szS h.space) BL.flatten (QD h.roots i-1).toNat r d:=by
 rw [X.e]
 ~⟨Oo,x,X.hx,p,X.hp,Oo⟩
def fldK(r:Nat)(b:Int)(ref:Bool):Nat:=if ref then 1+b.toNat else 1+r+b.toNat
theorem Qbs.plc(X:Qbs h BL i x p r d)(b:Int)(ref:Bool):PlcR h.space (QD h.roots i-1) b ref=if b<0\/(if ref then (r:Int) else d)<=b then (0,17) else (((adr (szS h.space) x.fr (p+fldK r b ref):Nat):Int),0):=by
 have hX:=X.H.sp.each x X.hx
 ð⟨b1,b2,b3,b4⟩:=X.pos
 unfold PlcR
 rw [X.look,if_neg Os]
 unfold FnR FbR
 dsimp only
 by_cases hb:b<0\/(if ref=true then (r:Int) else d)<=b
 ·rw [if_pos hb,if_pos hb]
 ·rw [if_neg hb,if_neg hb]
  have hk:p+fldK r b ref<x.fr.length*szS h.space:=by
   unfold fldK
   cases ref <;> simp at hb ⊢ <;> omega
  have hc:((if ref=true then (1:Int) else 1+(r:Int))+b)=(fldK r b ref:Int):=by
   unfold fldK
   cases ref <;> simp at hb ⊢ <;> omega
  rw [hc,X.e,show ((adr (szS h.space) x.fr p:Nat):Int)+1-1=((adr (szS h.space) x.fr p:Nat):Int) by omega,go_adr X.H.sp.ok.shp hX.inc.ch hX.inc.own (p:=p) Oo,if_pos hk]
theorem Qbs.place(X:Qbs h BL i x p r d)(hd:¬ h.dead=true){b:Int}(hb:I64 b)(ref:Bool):XY h (QD h.roots i-1) b ref=some (PlcR h.space (QD h.roots i-1) b ref):=by
 have hl:=X.lt
 have e:=X.e
 &Gd.eq ?_
 unfold XY
 &.neg hd (.call (is_c X.H X.obj.1 X.obj.2) (.pos rfl ?_))
 ~.call (place_c X.H.sp.ok.shp (Ze X.H.sp.ok.fm) X.H.sp.w (by unfold I64;omega) hb ref) (.some rfl)
theorem Qbs.fld(X:Qbs h BL i x p r d){b:Int}{ref:Bool}(hb:¬ (b<0\/(if ref then (r:Int) else d)<=b)):FldX h BL x p r d (fldK r b ref):=by
 &⟨X.H,X.hx,X.hp,?_,?_⟩ <;> (unfold fldK;cases ref <;> simp at hb ⊢ <;> omega)
end
theorem wrd_ref(H:QG h BL){a:Int}(ha:Qfu h.roots a false=0):U64 (QdH h.roots a)/\RefW (szS h.space) BL.flatten (QdH h.roots a)/\QdH h.roots a<=h.space.ws.length/\0<=a/\a<=32:=by
 rcases hdlE_0 ha with ⟨rfl,_⟩ | ⟨i,rfl,hi,hl⟩
 ·unfold QdH
  rw [if_pos rfl]
  ~⟨by unfold U64;omega,.inl rfl,Oo,Oo,Oo⟩
 ·ð⟨x,p,r,d,X⟩:=root_x H hl
  have:=X.lt
  have e:=X.e
  unfold QdH
  rw [if_neg Oo,show ((i+1:Nat):Int)-1=(i:Int) by omega,Wd]
  ~⟨by unfold U64;omega,.inr ⟨Oo,r,d,X.obj.2⟩,Oo,Oo,Oo⟩
theorem wrd_i(i:Nat)(R:Rts):QdH R ((i+1:Nat):Int)=QD R i:=by
 unfold QdH
 rw [if_neg Oo,show ((i+1:Nat):Int)-1=(i:Int) by omega,Wd]
def setW1(s:Sp)(q:Nat)(w:Int):Sp:=⟨s.sh,s.ws.set q w,s.fs⟩
def datH(h:Hp)(q w:Int):Hp:=⟨h.config,setW1 h.space q.toNat w,h.belts,h.seq,h.sets,h.roots,h.since,h.stats,h.dead⟩
noncomputable def rfwH(h:Hp)(q w:Int):Hp:=⟨h.config,setW1 h.space q.toNat w,h.belts,h.seq,QfW (setW1 h.space q.toNat w) h.sets q w,h.roots,h.since,h.stats,h.dead⟩
theorem Qbs.wref{i:Nat}{x:Itm}{p r d:Nat}(X:Qbs h BL i x p r d)(hd:¬ h.dead=true){b:Int}(hb:I64 b)(hp:(PlcR h.space (QD h.roots i-1) b true).2=0){c:Int}(hc:Qfu h.roots c false=0) :
  Xa h (QD h.roots i-1) b (QdH h.roots c)=some (rfwH h (PlcR h.space (QD h.roots i-1) b true).1 (QdH h.roots c),0)/\QG (rfwH h (PlcR h.space (QD h.roots i-1) b true).1 (QdH h.roots c)) BL:=by
 ð⟨w1,w2,w3,w4,w5⟩:=wrd_ref X.H hc
 have hws:=Z7 X.H.sp.ok
 have hpl:=X.plc b true
 have hbb:¬ (b<0\/(if true then (r:Int) else d)<=b):=λk=>by rw [hpl,if_pos k] at hp;cases hp
 have F:=X.fld hbb
 have hkr:fldK r b true<=r:=by unfold fldK;simp at hbb ⊢;omega
 rw [if_neg hbb] at hpl
 have hI:=F.ref hkr w1 w2
 have hlt:=F.lt
 have eH:rfwH h (PlcR h.space (QD h.roots i-1) b true).1 (QdH h.roots c)=refH h x p (fldK r b true) (QdH h.roots c):=by
  unfold rfwH refH QeO setW1
  rw [hpl,Wd]
 &⟨Gd.eq ?_,by rw [eH];~hI⟩
 unfold Xa
 &.call (X.place hd hb true) ?_
 &.neg (by rw [hp];omega) ?_
 &Gd.bind (P:=λz=>z=0) ?_ λz hz=>?_
 ·&.ite (λk=>.some hp) λk=>.neg (by rw [Xv Oo];omega) ?_
  have k:¬ QdH h.roots c=0:=k
  rcases w2 with w2 | ⟨w2,r',d',ho⟩
  ·~absurd w2 k
  ·rw [Xv Oo,Qd Oo]
   ~.call (is_c X.H Oo ho) (.pos rfl (.some hp))
 ·subst hz
  &.pos rfl (.call (Qb0 X.H) ?_)
  have hsp:=F.sp w1
  have hno:=note19_c hsp.ok X.H.sok (X.H.sok.sz X.H.sin) (p:=((adr (szS h.space) x.fr (p+fldK r b true):Nat):Int)) w1
  rw [hpl]
  &.atN hlt ?_
  rw [Wd]
  &.call hno (.some ?_)
  unfold rfwH QeO setW1
  rw [Wd]
theorem Qbs.wdat{i:Nat}{x:Itm}{p r d:Nat}(X:Qbs h BL i x p r d)(hd:¬ h.dead=true){b:Int}(hb:I64 b)(hp:(PlcR h.space (QD h.roots i-1) b false).2=0){w:Int}(hw:U64 w) :
  ZQ h (QD h.roots i-1) b w=some (datH h (PlcR h.space (QD h.roots i-1) b false).1 w,0)/\QG (datH h (PlcR h.space (QD h.roots i-1) b false).1 w) BL:=by
 have hpl:=X.plc b false
 have hbb:¬ (b<0\/(if false then (r:Int) else d)<=b):=λk=>by rw [hpl,if_pos k] at hp;cases hp
 have F:=X.fld hbb
 have hkr:r<fldK r b false:=by unfold fldK;simp at hbb ⊢;omega
 rw [if_neg hbb] at hpl
 have hI:=F.data hkr hw h.since h.stats h.dead
 have hlt:=F.lt
 &⟨Gd.eq ?_,?_⟩
 ·unfold ZQ
  &.call (X.place hd hb false) (.pos hp (.call (Qb0 X.H) ?_))
  unfold datH setW1
  rw [hpl]
  &.atN hlt (.some rfl)
 ·unfold datH setW1
  rw [hpl]
  ~hI
end
end Go.Proofs.YtkfnkecgcdhncaaGreat
