/- Parts of the proof. No condition. -/
import Derived.Test.YthadnbdbfpggdaaGreatDoorQR0
import Derived.Test.YthadnbdbfpggdaaGreatDoorQR14
noncomputable section
namespace Go.Proofs.YthadnbdbfpggdaaGreatDoor
open Go.RowKit
set_option linter.unusedSimpArgs false
set_option linter.unusedVariables false
section
variable{s0:Sp}{C K:List Itm}{T0:Itm}{sn sk:Nat}{st:EvS}{T:Itm}{M:List (Nat×Nat×Nat)}
theorem EvB.start(a:EvB s0 C K T0):Xv s0 C K T0 0 0 ⟨s0,T0.i,[]⟩ T0 []:=by
 have c:=a.t0.inc.wd;refine ⟨rfl,rfl,rfl,a.ok,a.w,rfl,⟨0,Os,Os⟩,a.t0.inc,⟨rfl,rfl,by simp[szM];omega⟩,Os,rfl,λx b=>?_,a.own,λo h=>absurd h (WV),Os,λ_ _ _ _ _=>rfl,λo h=>absurd h (WV),λ_ _ _ _=>rfl,λ_ _=>rfl,λo h=>absurd h (WV),λo h=>absurd h (WV),λn o h=>by simp[nob]at h⟩;rcases Wk.1 b with h | h
 ·exact (a.cs x h).inc.toIncC
 ·exact (a.ks x h).inc.toIncC
theorem ev_len(b:EvB s0 C K T0)(h:Xv s0 C K T0 sn sk st T M):M.length<=16384/\st.mv.length=M.length:=by
 have e:=ev_sum b h.src h.nd;have f:=sumN_16 b;have c:∀ (M:List (Nat×Nat×Nat)),M.length<=szM M:=by
  intro M;induction M with
  | nil=>exact Wl _
  | cons o M ih=>obtain ⟨a,r,d⟩:=o;show M.length+1<=1+r+d+szM M;omega
 refine ⟨by have:=c M;omega,?_⟩;rw[h.mv];unfold Qfi;rw[Wb,Qcl]
theorem Qej(h:Xv s0 C K T0 sn sk st T M){q:Nat}(a:q<T.fr.length*szS s0):adr (szS s0) T.fr q<st.s.ws.length:=by have:=QaJ h.ok.shp h.inc.ch.lt (p:=q) (by rw[h.z];exact a);rwa [h.z]at this
theorem ev_moveB(m:EvB s0 C K T0)(h:Xv s0 C K T0 sn sk st T M)(L:sn<=M.length/\(sk=0\/sn<M.length)){x:Int}(A:U64 x)(Y:RefOk s0 C x)
  (b:∀ r d,Qeq s0 (C.map Itm.i) x->ObjZ (szS s0) C (x-1).toNat r d->(x-1).toNat∉M.map (·.1)->r<=15->d<=32->exN st.s T.i (1+(r:Int)+d)<=(Qk st.s.fs).length) :
  MvP (C.map Itm.i) st T.fr x/\∃ T' N,Xv s0 C K T0 sn sk (mv1 (C.map Itm.i) st x).1 T' (M++N)/\ImgP s0 C (mv1 (C.map Itm.i) st x).1.mv x (mv1 (C.map Itm.i) st x).2/\U64 (mv1 (C.map Itm.i) st x).2/\(∃ l,T'.fr=T.fr++l)/\∃ l,(mv1 (C.map Itm.i) st x).1.mv=st.mv++l:=by
 obtain ⟨V,W⟩:=ev_len m h;have S:=m.len;have n:=XF h.ok;by_cases j:Qeq st.s (C.map Itm.i) x
 ·have c:=(ev_win m h x).1 j;obtain ⟨r,d,y,B,p,H,Z⟩:=Y c;obtain ⟨⟨n0,n1⟩,_⟩:=id j;unfold U64 at A;have e:x-1=((adr (szS s0) y.fr p:Nat):Int):=by omega
  obtain ⟨X,r15,I,J⟩:=Itm.posOk m.ok (m.cs y B) H;obtain ⟨s,to,mv⟩:=st;have D:to=T.i:=h.to;subst D;by_cases z:adr (szS s0) y.fr p∈M.map (·.1)
  ·rw[<- nob_fst M T0.i.words.toNat]at z;obtain ⟨o,g,O⟩:=Wm.1 z;have E:=h.cf o g;have U:=Jp M _ o g;have b:=Qbf h;have t:=Qej h (q:=o.2.1) Oo;have f:wAt s (x-1)=fwdW ((adr (szS s0) T.fr o.2.1:Nat):Int):=by rw[e,<- O];exact Xh E
   have a:JW (wAt s (x-1))=⟨0,0,((adr (szS s0) T.fr o.2.1:Nat):Int),true,0⟩:=by rw[f];exact DecR_fwd (by dsimp only at t n;omega)
   have u:mv1 (C.map Itm.i) ⟨s,T.i,mv⟩ x=(⟨s,T.i,mv⟩,((adr (szS s0) T.fr o.2.1:Nat):Int)+1):=by unfold mv1;dsimp only;rw[if_pos j,a,if_pos rfl]
   rw[u];refine ⟨⟨h.ok,h.w,h.inc,A,by rw[Wb];omega,Oo,λ_=>⟨?_,λk=>?_⟩⟩,T,[],by rw[W6];exact h,.inr ⟨c,⟨(o.1:Int),((adr (szS s0) T.fr o.2.1:Nat):Int)⟩,?_,?_,rfl⟩,?_,⟨[],Os⟩,⟨[],Os⟩⟩
   ·show (JW (wAt s (x-1))).e=0;rw[a]
   ·change (JW (wAt s (x-1))).mv=false at k;rw[a]at k;cases k
   ·rw[h.mv];exact Wm.2 ⟨o,g,rfl⟩
   ·show (o.1:Int)=x-1;rw[e,<- O]
   ·unfold U64;dsimp only at t n;omega
  ·have v:(x-1).toNat=adr (szS s0) y.fr p:=by omega
   obtain ⟨i,P,Q,R,w⟩:=ev_new m h L B H z (b r d c (v▸⟨y,B,p,H,rfl⟩) (by rw[v];exact z) r15 I);dsimp only at i P Q R w;have F:s.ws[adr (szS s0) y.fr p]?=some (hdW r d):=by rw[<- J];exact h.cw y B p Oo z
   have f:wAt s (x-1)=hdW r d:=by rw[e];exact Xh F
   have a:JW (wAt s (x-1))=⟨r,d,0,false,0⟩:=by rw[f];exact DecR_hd ⟨Oo,Oo,Oo,Oo⟩
   have G:Qy s (x-1)=⟨r,d,0⟩:=by rw[e];exact i.look h.ok
   have u:mv1 (C.map Itm.i) ⟨s,T.i,mv⟩ x=(mvS ⟨s,T.i,mv⟩ ((adr (szS s0) y.fr p:Nat):Int) r d,mvA ⟨s,T.i,mv⟩ r d+1):=by unfold mv1;dsimp only;rw[if_pos j,a,if_neg Os,G,e]
   rw[u];refine ⟨⟨h.ok,h.w,h.inc,A,by rw[Wb];omega,Oo,λ_=>⟨?_,λ_=>?_⟩⟩,_,_,Q,.inr ⟨c,⟨((adr (szS s0) y.fr p:Nat):Int),mvA ⟨s,T.i,mv⟩ r d⟩,Wj _ (Wn.2 rfl),e.symm,rfl⟩,?_,⟨_,rfl⟩,⟨_,rfl⟩⟩
   ·show (JW (wAt s (x-1))).e=0;rw[a]
   ·refine ⟨y.fr,p,r,d,?_,P⟩;rw[e];exact i
   ·unfold U64;rw[R]at w ⊢;omega
 ·have u:mv1 (C.map Itm.i) st x=(st,x):=by unfold mv1;rw[if_neg j]
  rw[u];exact ⟨⟨h.ok,h.w,h.to▸h.inc,A,by rw[Wb];omega,Oo,λk=>absurd k j⟩,T,[],by rw[W6];exact h,.inl ⟨λk=>j ((ev_win m h x).2 k),rfl⟩,A,⟨[],Os⟩,⟨[],Os⟩⟩
theorem ev_move(b:EvC s0 C K T0)(h:Xv s0 C K T0 sn sk st T M)(a:sn<=M.length/\(sk=0\/sn<M.length)){x:Int}(j:U64 x)(i:RefOk s0 C x) :
  MvP (C.map Itm.i) st T.fr x/\∃ T' N,Xv s0 C K T0 sn sk (mv1 (C.map Itm.i) st x).1 T' (M++N)/\ImgP s0 C (mv1 (C.map Itm.i) st x).1.mv x (mv1 (C.map Itm.i) st x).2/\U64 (mv1 (C.map Itm.i) st x).2/\(∃ l,T'.fr=T.fr++l)/\∃ l,(mv1 (C.map Itm.i) st x).1.mv=st.mv++l:=ev_moveB b.toEvB h a j i λr d _ c e f g=>ev_budget b h c e f g
theorem ev_set(G:EvB s0 C K T0)(h:Xv s0 C K T0 sn sk st T M){o:Nat×Nat×Nat×Nat}(B:(nob T0.i.words.toNat M)[sn]?=some o)(hk:sk+1<=o.2.2.1){w v:Int}(hv:U64 v)(hw:s0.ws[srcA s0 o.1 (sk+1)]?=some w)(hi:ImgP s0 C st.mv w v) :
  Xv s0 C K T0 sn (sk+1) ⟨setS st.s ((adr (szS s0) T.fr (o.2.1+(sk+1)):Nat):Int) v,st.to,st.mv⟩ T M:=by
 have hz:=G.z0;have H:=Qbf h;have I:=Wq B;have S:=Jp M _ o I;have E:o.2.1+(sk+1)<T.fr.length*szS s0:=by omega
 have J:=Qej h E;have r:∀ x,x≠adr (szS s0) T.fr (o.2.1+(sk+1))->(setS st.s ((adr (szS s0) T.fr (o.2.1+(sk+1)):Nat):Int) v).ws[x]?=st.s.ws[x]?:=λx f=>by show (st.s.ws.set (((adr (szS s0) T.fr (o.2.1+(sk+1)):Nat):Int)).toNat v)[x]?=_;rw[Wd,WK (λe=>f e.symm)]
 have U:(setS st.s ((adr (szS s0) T.fr (o.2.1+(sk+1)):Nat):Int) v).ws[adr (szS s0) T.fr (o.2.1+(sk+1))]?=some v:=by show (st.s.ws.set (((adr (szS s0) T.fr (o.2.1+(sk+1)):Nat):Int)).toNat v)[_]?=_;rw[Wd,WN J]
 have L:(setS st.s ((adr (szS s0) T.fr (o.2.1+(sk+1)):Nat):Int) v).ws.length=st.s.ws.length:=setS_len _ _ _;have n:∀ q,q<T.fr.length*szS s0->q≠o.2.1+(sk+1)->adr (szS s0) T.fr q≠adr (szS s0) T.fr (o.2.1+(sk+1)):=λq g p e=>p (Qcw Oo h.inc.nd g E e);have m:∀ x∈C++K,∀ q,q<x.fr.length*szS s0->adr (szS s0) x.fr q≠adr (szS s0) T.fr (o.2.1+(sk+1)):=λx f q g=>Qem Oo ((h.oth x f).disj h.inc.toIncC (by rw[h.sq.1];exact G.sqT x f)) g E;have F:=h.inc;refine ⟨h.sh,L.trans h.wl,h.fl,?_,⟨λx f=>?_,h.w.2⟩,h.to,h.fr,⟨F.toIncC,by rw[L];exact F.wd,F.len⟩,h.sq,h.os,h.mv,h.oth,h.own,h.src,h.nd,?_,?_,?_,?_,?_,?_,?_⟩
 ·refine sp_ws h.ok L λk O h0 a g p e=>?_;have:=r a λea=>?_
  ·exact VC ((Wa p).symm.trans (this.trans (Wa g)))
  ·have P:=adr_fr Oo E;rw[<- ea,<- h.z,e]at P;exact F.own k P O h0
 ·rcases WY f with f | rfl
  ·exact h.w.1 x f
  ·exact hv
 ·exact λx f q g p=>(r _ (m x (Wg _ f) q g)).trans (h.cw x f q g p)
 ·intro l d;obtain ⟨x,f,q,N,e⟩:=h.src _ (QdE M _ l d);have V:=(Itm.posOk G.ok (G.cs x f) N).1;dsimp only at e;refine (r _ ?_).trans (h.cf l d);rw[e];exact m x (Wg _ f) _ Oo
 ·exact λx f q g=>(r _ (m x (Wj _ f) q g)).trans (h.kw x f q g)
 ·exact λq g=>(r _ (n q Oo Oo)).trans (h.tw q g)
 ·intro l d;have s:=Jp M _ l d;refine (r _ (n _ Oo λe=>?_)).trans (h.hd l d);obtain ⟨j,b⟩:=W8.1 d;have t:=nob_sep M T0.i.words.toNat;obtain ⟨u,y⟩:=Wo.1 B;obtain ⟨z,A⟩:=Wo.1 b;rcases UZ sn j with c | c | c
  ·have:=WA.1 t sn j u z c;rw[y,A]at this;omega
  ·subst c;rw[B]at b;injection b with b;subst b;omega
  ·have:=WA.1 t j sn z u c;rw[y,A]at this;omega
 ·intro l d k g p;have s:=Jp M _ l d;refine (r _ (n _ Oo λe=>?_)).trans (h.dat l d k g p);obtain ⟨j,b⟩:=W8.1 d;have t:=nob_sep M T0.i.words.toNat;obtain ⟨u,y⟩:=Wo.1 B;obtain ⟨z,A⟩:=Wo.1 b;rcases UZ sn j with c | c | c
  ·have:=WA.1 t sn j u z c;rw[y,A]at this;omega
  ·subst c;rw[B]at b;injection b with b;subst b;omega
  ·have:=WA.1 t j sn z u c;rw[y,A]at this;omega
 ·intro j l b k g p;have d:=Wq b;have s:=Jp M _ l d;have i:=h.ref j l b k g p;by_cases hh:j=sn/\k=sk+1
  ·obtain ⟨rfl,rfl⟩:=hh;rw[B]at b;injection b with b;subst b;rw[if_pos (.inr ⟨rfl,Wl _⟩)];exact ⟨w,v,hw,U,hi⟩
  ·have D:l.2.1+k≠o.2.1+(sk+1):=λe=>by
    have t:=nob_sep M T0.i.words.toNat;obtain ⟨u,y⟩:=Wo.1 B;obtain ⟨z,A⟩:=Wo.1 b;rcases UZ sn j with c | c | c
    ·have:=WA.1 t sn j u z c;rw[y,A]at this;omega
    ·subst c;rw[B]at b;injection b with b;subst b;omega
    ·have:=WA.1 t j sn z u c;rw[y,A]at this;omega
   have Q:=r _ (n (l.2.1+k) Oo D);by_cases R:j<sn\/(j=sn/\k<=sk)
   ·rw[if_pos R]at i;rw[if_pos Oo];obtain ⟨W,X,Y,Z,q3⟩:=i;exact ⟨W,X,Y,Q.trans Z,q3⟩
   ·rw[if_neg R]at i;rw[if_neg Oo];exact Q.trans i
theorem ev_next(h:Xv s0 C K T0 sn sk st T M){o:Nat×Nat×Nat×Nat}(I:(nob T0.i.words.toNat M)[sn]?=some o)(J:sk=o.2.2.1):Xv s0 C K T0 (sn+1) 0 st T M:=by
 obtain ⟨d,e,f,g,i,l,m,n,p,r,s,t,u,v,w,x,y,z,A,B,D,E⟩:=h;refine ⟨d,e,f,g,i,l,m,n,p,r,s,t,u,v,w,x,y,z,A,B,D,λj F b k G H=>?_⟩;have a:=E j F b k G H;by_cases c:j<sn\/(j=sn/\k<=sk)
 ·rw[if_pos c]at a;rw[if_pos Oo];exact a
 ·rw[if_neg c]at a;rw[if_neg ?_]
  ·exact a
  ·rintro (q | ⟨_,q⟩)
   ·have:j=sn:=by omega
    subst this;rw[I]at b;injection b with b;subst b;omega
   ·omega
theorem ev_fields(i:EvB s0 C K T0)(h:Xv s0 C K T0 sn sk st T M){o:Nat×Nat×Nat×Nat}(m:o∈nob T0.i.words.toNat M) :
  QbX st.s ((adr (szS s0) T.fr o.2.1:Nat):Int)=((List.range o.2.2.1).map λj=>((adr (szS s0) T.fr (o.2.1+(j+1)):Nat):Int),0)/\Qy st.s ((adr (szS s0) T.fr o.2.1:Nat):Int)=⟨o.2.2.1,o.2.2.2,0⟩:=by have t:=i.z0;have a:=Qbf h;have n:=Jp M _ o m;obtain ⟨x,s,q,c,e⟩:=h.src _ (QdE M _ o m);obtain ⟨_,r15,f,_⟩:=Itm.posOk i.ok (i.cs x s) c;have b:=(QeR h.ok h.inc.ch h.inc.own (p:=o.2.1) (r:=o.2.2.1) (d:=o.2.2.2) (by rw[h.z];omega) r15 f (by rw[h.z];exact h.hd o m)).1;rw[h.z]at b;refine ⟨?_,b⟩;unfold QbX;rw[b,if_pos rfl];refine congrArg (λl=>(l,(0:Int))) ?_;unfold fldL;rw[Wd];refine W7 λj g=>?_;rw[WE]at g;have:=go_k (k:=j+1) h.ok.shp h.inc.ch h.inc.own (p:=o.2.1) (by rw[h.z];omega);rw[h.z]at this;rw[show (1+(j:Int))=((j+1:Nat):Int) by omega,this]
end
def runW(l:List Inc)(a:EvS)(ws:List Int):EvS×List Int:=ws.foldl (λp x=>((mv1 l p.1 x).1,p.2++[(mv1 l p.1 x).2])) (a,[])
def Qfw(l:List Inc)(a:EvS)(q:Int):EvS:=⟨setS (mv1 l a (wAt a.s q)).1.s q (mv1 l a (wAt a.s q)).2,(mv1 l a (wAt a.s q)).1.to,(mv1 l a (wAt a.s q)).1.mv⟩
def QcU(l:List Inc)(st:EvS)(k:Nat):EvS:=match st.mv[k]? with
 | none=>st
 | some m=>(QbX st.s m.to).1.foldl (Qfw l) st
def scanN(l:List Inc):Nat->Nat->EvS->EvS
 | 0,k,st=>st
 | f+1,k,st=>if k<st.mv.length then scanN l f (k+1) (QcU l st k) else st
def runE(l:List Inc)(s:Sp)(to:Inc)(ws:List Int):EvS×List Int:=(scanN l 20000 0 (runW l ⟨s,to,[]⟩ ws).1,(runW l ⟨s,to,[]⟩ ws).2)
theorem nob_append:∀ (M N:List (Nat×Nat×Nat)) (p:Nat),nob p (M++N)=nob p M++nob (p+szM M) N
 | [],N,p=>by simp[nob,szM]
 | (b,r,d) :: M,N,p=>by show (b,p,r,d) :: nob (p+1+r+d) (M++N)=(b,p,r,d) :: (nob (p+1+r+d) M++nob (p+(1+r+d+szM M)) N);rw[nob_append M,show p+1+r+d+szM M=p+(1+r+d+szM M) by omega]
theorem QeP{M N:List (Nat×Nat×Nat)}{p j:Nat}{o:Nat×Nat×Nat×Nat}(h:(nob p M)[j]?=some o):(nob p (M++N))[j]?=some o:=by rw[nob_append,WF (Wo.1 h).1];exact h
structure EvR(s0:Sp)(C K:List Itm)(T0:Itm)(words:List Int)(st:EvS)(out:List Int)(T:Itm)(M:List (Nat×Nat×Nat)):Prop where
 inv:Xv s0 C K T0 M.length 0 st T M
 len:out.length=words.length
 img:∀ (j:Nat) (w v:Int),words[j]?=some w->out[j]?=some v->ImgP s0 C st.mv w v
 u:∀ v∈out,U64 v
section
variable{s0:Sp}{C K:List Itm}{T0:Itm}
theorem ev_field(g:EvC s0 C K T0){k j:Nat}{a:EvS}{T:Itm}{M:List (Nat×Nat×Nat)}(h:Xv s0 C K T0 k j a T M){o:Nat×Nat×Nat×Nat}(i:(nob T0.i.words.toNat M)[k]?=some o)(t:j+1<=o.2.2.1){q:Int}(u:q=((adr (szS s0) T.fr (o.2.1+(j+1)):Nat):Int)) :
  MvP (C.map Itm.i) a T.fr (wAt a.s q)/\0<=q/\q.toNat<a.s.ws.length/\(mv1 (C.map Itm.i) a (wAt a.s q)).1.s.ws.length=a.s.ws.length/\(mv1 (C.map Itm.i) a (wAt a.s q)).1.s.fs.length=a.s.fs.length/\∃ T' N,Xv s0 C K T0 k (j+1) (Qfw (C.map Itm.i) a q) T' (M++N)/\(∃ l,T'.fr=T.fr++l)/\∃ l,(Qfw (C.map Itm.i) a q).mv=a.mv++l:=by
 have J:=g.toEvB.z0;have m:=Qbf h;have c:=Wq i;have A:=Jp M _ o c;have n:k<M.length:=by have:=(Wo.1 i).1;rwa [Qcl]at this
 have d:=Qej h (q:=o.2.1+(j+1)) Oo;have b:=h.ref k o i (j+1) Oo t;rw[if_neg Oo]at b;obtain ⟨w,hw⟩:∃ w,a.s.ws[adr (szS s0) T.fr (o.2.1+(j+1))]?=some w:=⟨_,Wa d⟩;have r:wAt a.s q=w:=by rw[u];exact Xh hw
 rw[hw]at b;obtain ⟨x,v,p,y,e⟩:=h.src _ (QdE M _ o c);dsimp only at e;have B:U64 w:=h.w.1 w (Wq hw);have f:srcA s0 o.1 (j+1)=adr (szS s0) x.fr (p+(j+1)):=by rw[e];exact Qgm g.toEvB v y (by show j+1<=o.2.2.1+o.2.2.2;omega)
 have D:RefOk s0 C w:=g.refs x v p _ _ y (j+1) Oo t w (by rw[<- f];exact b.symm);obtain ⟨F,T',N,s,G,H,⟨l,z⟩,I⟩:=ev_move g h ⟨Oo,.inr n⟩ B D;rw[r];refine ⟨F,Oo,by rw[u,Wd];exact d,s.wl.trans h.wl.symm,s.fl.trans h.fl.symm,T',N,?_,⟨l,z⟩,by unfold Qfw;rw[r];exact I⟩;have:=ev_set g.toEvB s (QeP i) t H b.symm G;unfold Qfw;rw[r,u];have E:adr (szS s0) T'.fr (o.2.1+(j+1))=adr (szS s0) T.fr (o.2.1+(j+1)):=by rw[z];exact ZL Oo Oo
 rw[E]at this;exact this
set_option maxHeartbeats 1000000 in
theorem run_c(D:EvC s0 C K T0){d:List Int}(ai:∀ w∈d,U64 w/\RefOk s0 C w)(ao:d.length<=100000) :
  ZE s0 (C.map Itm.i) T0.i d=some ((runE (C.map Itm.i) s0 T0.i d).1.to,(runE (C.map Itm.i) s0 T0.i d).1.mv,(runE (C.map Itm.i) s0 T0.i d).2,0,(runE (C.map Itm.i) s0 T0.i d).1.s.ws,(runE (C.map Itm.i) s0 T0.i d).1.s.fs) /\
   ∃ T M,EvR s0 C K T0 d (runE (C.map Itm.i) s0 T0.i d).1 (runE (C.map Itm.i) s0 T0.i d).2 T M:=by
 generalize hL:C.map Itm.i=L;suffices h:Gd (λr=>r=((runE L s0 T0.i d).1.to,(runE L s0 T0.i d).1.mv,(runE L s0 T0.i d).2,(0:Int),(runE L s0 T0.i d).1.s.ws,(runE L s0 T0.i d).1.s.fs)/\∃ T M,EvR s0 C K T0 d (runE L s0 T0.i d).1 (runE L s0 T0.i d).2 T M) (ZE s0 L T0.i d) by obtain ⟨r,z,rfl,g⟩:=h;exact ⟨z,g⟩
 unfold ZE;let mk1:EvS×List Int->Int->List Int×List Fe×Int×List Inc×Int×Int×Int×Int×Int×List Mov×Int×List Int×Int:=λt i=>(t.1.s.ws,t.1.s.fs,t.1.s.sh,L,t.1.to.seq,t.1.to.belt,t.1.to.first,t.1.to.last,t.1.to.words,t.1.mv,0,t.2,i);refine Gd.bind (P:=λb=>b=((runW L ⟨s0,T0.i,[]⟩ d).1.s.ws,(runW L ⟨s0,T0.i,[]⟩ d).1.s.fs,(runW L ⟨s0,T0.i,[]⟩ d).1.s.sh,L,(runW L ⟨s0,T0.i,[]⟩ d).1.to.seq,(runW L ⟨s0,T0.i,[]⟩ d).1.to.belt,(runW L ⟨s0,T0.i,[]⟩ d).1.to.first,(runW L ⟨s0,T0.i,[]⟩ d).1.to.last,(runW L ⟨s0,T0.i,[]⟩ d).1.to.words,(runW L ⟨s0,T0.i,[]⟩ d).1.mv,(0:Int),(runW L ⟨s0,T0.i,[]⟩ d).2) /\
   (∃ T M,Xv s0 C K T0 0 0 (runW L ⟨s0,T0.i,[]⟩ d).1 T M)/\(runW L ⟨s0,T0.i,[]⟩ d).2.length=d.length/\(∀ (j:Nat) (w v:Int),d[j]?=some w->(runW L ⟨s0,T0.i,[]⟩ d).2[j]?=some v->ImgP s0 C (runW L ⟨s0,T0.i,[]⟩ d).1.mv w v)/\∀ v∈(runW L ⟨s0,T0.i,[]⟩ d).2,U64 v) ?_ λb W=>?_
 ·refine Gd.fold d mk1 (λp x=>((mv1 L p.1 x).1,p.2++[(mv1 L p.1 x).2])) (⟨s0,T0.i,[]⟩,[]) (λi p=>(∃ T M,Xv s0 C K T0 0 0 p.1 T M)/\p.2.length=i/\(∀ (j:Nat) (w v:Int),d[j]?=some w->p.2[j]?=some v->ImgP s0 C p.1.mv w v)/\∀ v∈p.2,U64 v) rfl (λ_ _=>rfl) Oo
   ⟨⟨T0,[],D.toEvB.start⟩,rfl,λj w v _ h=>by simp at h,λv h=>absurd h (WV)⟩ (λi hi p hp=>?_) (λhp=>⟨rfl,hp⟩)
  obtain ⟨⟨T,M,s⟩,u,y,X⟩:=hp
  obtain ⟨ad,ae⟩:=ai _ (Wc hi)
  obtain ⟨m1,A,N,Y,m3,m4,_,⟨l,m6⟩⟩:=ev_move D s ⟨WO _,.inl rfl⟩ ad ae
  rw[hL]at m1 Y m3 m4 m6
  refine ⟨⟨⟨A,M++N,Y⟩,by rw[We,WJ,u],λj w v z g=>?_,λv hv=>?_⟩,?_⟩
  ·dsimp only at g ⊢
   rcases Ws j p.2.length with c | c
   ·rw[WF c]at g
    exact (y j w v z g).mono λm hm=>by rw[m6];exact Wg _ hm
   ·rw[WC c]at g
    have:j=i:=by
     rcases Ws (j-p.2.length) 1 with q | q
     ·omega
     ·rw[Wi (by simpa using q)]at g;cases g
    subst this
    rw[u,V1]at g
    injection g with g
    rw[Wa hi]at z
    injection z with z
    rw[<- z,<- g]
    exact m3
  ·rcases Wk.1 hv with hv | hv
   ·exact X v hv
   ·rw[Wn.1 hv];exact m4
  ·refine .atN hi ?_
   refine .call (move_c m1) ?_
   refine .pos (show (mv1 L p.1 d[i]).1.s.ws.length=p.1.s.ws.length from Y.wl.trans s.wl.symm) (.pos (show (mv1 L p.1 d[i]).1.s.fs.length=p.1.s.fs.length from Y.fl.trans s.fl.symm) (.pos (XP (l:=p.2) Oo Oo) (.some rfl)))
 obtain ⟨rfl,⟨T1,M1,R⟩,u,y,X⟩:=W;let mk2:EvS->Int->List Int×List Fe×Int×List Inc×Int×Int×Int×Int×Int×List Mov×Int×Int:=λt i=>(t.s.ws,t.s.fs,t.s.sh,L,t.to.seq,t.to.belt,t.to.first,t.to.last,t.to.words,t.mv,0,i);generalize hst1:(runW L ⟨s0,T0.i,[]⟩ d).1=st1 at R y;have eE:runE L s0 T0.i d=(scanN L 20000 0 st1,(runW L ⟨s0,T0.i,[]⟩ d).2):=by unfold runE;rw[hst1]
 rw[eE];generalize (runW L ⟨s0,T0.i,[]⟩ d).2=out at u y X;refine Gd.bind (P:=λb=>∃ f T M,b=(f.s.ws,f.s.fs,f.s.sh,L,f.to.seq,f.to.belt,f.to.first,f.to.last,f.to.words,f.mv,(0:Int))/\f=scanN L 20000 0 st1/\Xv s0 C K T0 M.length 0 f T M/\∃ l,f.mv=st1.mv++l) ?_ λb W=>?_
 ·refine Gd.loop (λx=>∃ (k:Nat) (f:EvS) (T:Itm) (M:List (Nat×Nat×Nat)),x=mk2 f (k:Int)/\Xv s0 C K T0 k 0 f T M/\k<=M.length/\scanN L 20000 0 st1=scanN L (20000-k) k f/\∃ l,f.mv=st1.mv++l) _ (λx=>20000-x.2.2.2.2.2.2.2.2.2.2.2.toNat) ⟨0,st1,T1,M1,rfl,R,WO _,rfl,[],Os⟩ ?_;rintro x ⟨k,f,T,M,rfl,s,hk,hs,l0,hl0⟩;obtain ⟨hM,an⟩:=ev_len D.toEvB s;have hf:20000-k=(20000-(k+1))+1:=by omega
  refine .ite (λE=>?_) λG=>?_
  ·have E:k<M.length:=by have:(k:Int)<(f.mv.length:Int):=E;omega
   refine .pos rfl ?_;obtain ⟨o,hj⟩:∃ o,(nob T0.i.words.toNat M)[k]?=some o:=⟨_,Wa (by rw[Qcl];exact E)⟩;have F:=Wq hj;have J:f.mv[k]?=some ⟨(o.1:Int),((adr (szS s0) T.fr o.2.1:Nat):Int)⟩:=by rw[s.mv];unfold Qfi;rw[Wh,hj];rfl
   obtain ⟨H,S⟩:=Wo.1 J;obtain ⟨U,_⟩:=ev_fields D.toEvB s F;have ak:=Jp M _ o F;have aj:o.2.2.1<=15:=by obtain ⟨x,hx,q,af,e⟩:=s.src _ (QdE M _ o F);exact (Itm.posOk D.ok (D.cs x hx) af).2.1
   have aa:=Qbf s;have hz:=D.toEvB.z0;have al:=XF s.ok;have am:=Qej s (q:=o.2.1) Oo;have ab:QcU L f k=((List.range o.2.2.1).map λj=>((adr (szS s0) T.fr (o.2.1+(j+1)):Nat):Int)).foldl (Qfw L) f:=by unfold QcU;rw[J];dsimp only;rw[U]
   have es:(⟨s0.sh,f.s.ws,f.s.fs⟩:Sp)=f.s:=by rw[<- s.sh]
   refine Gd.bind (P:=λb=>∃ A N,b=((QcU L f k).s.ws,(QcU L f k).s.fs,(QcU L f k).s.sh,L,(QcU L f k).to.seq,(QcU L f k).to.belt,(QcU L f k).to.first,(QcU L f k).to.last,(QcU L f k).to.words,(QcU L f k).mv,(0:Int))/\Xv s0 C K T0 k o.2.2.1 (QcU L f k) A (M++N)/\∃ l,(QcU L f k).mv=f.mv++l) ?_ λb W=>?_
   ·refine .at (l:=f.mv) (i:=(k:Int)) Oo (by simpa using H) ?_;have O:f.mv[((k:Int)).toNat]'(by simpa using H)=⟨(o.1:Int),((adr (szS s0) T.fr o.2.1:Nat):Int)⟩:=by simpa using S
    rw[O];refine .call (a:=QbX f.s ((adr (szS s0) T.fr o.2.1:Nat):Int)) (by
     show QS ⟨s0.sh,f.s.ws,f.s.fs⟩ _=_
     rw[es]
     exact Qei s.ok.shp (Q2 s.ok.fm) s.w (by unfold I64;dsimp only;omega)) ?_
    rw[U,ab];dsimp only;refine Gd.fold ((List.range o.2.2.1).map λj=>((adr (szS s0) T.fr (o.2.1+(j+1)):Nat):Int)) mk2 (Qfw L) f (λj t=>∃ A N,Xv s0 C K T0 k j t A (M++N)/\(∃ l,A.fr=T.fr++l)/\∃ l,t.mv=f.mv++l) rfl (λ_ _=>rfl) (by rw[Wb,WS];omega)
     ⟨T,[],by rw[W6];exact s,⟨[],Os⟩,⟨[],Os⟩⟩ (λj B t ht=>?_) (λht=>?_)
    ·rw[Wb,WS]at B;obtain ⟨A,N,z,⟨l,g⟩,⟨l2,Q⟩⟩:=ht;have hq:((List.range o.2.2.1).map λj=>((adr (szS s0) T.fr (o.2.1+(j+1)):Nat):Int))[j]'(by rw[Wb,WS];exact B)=((adr (szS s0) A.fr (o.2.1+(j+1)):Nat):Int):=by rw[Vt,UT,g,ZL Oo Oo]
     obtain ⟨f1,Z,V,f4,f5,ag,N',f6,⟨l',f7⟩,⟨ah,f8⟩⟩:=ev_field D z (QeP hj) Oo hq;rw[hL]at f1 f4 f5 f6 f8;refine ⟨⟨ag,N++N',by rw[<- WI];exact f6,⟨l++l',by rw[f7,g,WI]⟩,⟨l2++ah,by rw[f8,Q,WI]⟩⟩,?_⟩;refine .atN (by rw[Wb,WS];exact B) ?_;generalize ((List.range o.2.2.1).map λj=>((adr (szS s0) T.fr (o.2.1+(j+1)):Nat):Int))[j]'(by rw[Wb,WS];exact B)=q at f1 Z V f4 f5 f6 f8 ⊢;refine .at Z V ?_;rw[show (mk2 t (j:Int)).1[q.toNat]'V=wAt t.s q from (QcC Z V).symm];refine .call (move_c f1) (.pos f4 (.pos f5 (.at Z (by show q.toNat<(mv1 L t (wAt t.s q)).1.s.ws.length;rw[f4];exact V) (.some rfl))))
    ·rw[Wb,WS]at ht;obtain ⟨A,N,z,_,Q⟩:=ht;exact ⟨A,N,rfl,z,Q⟩
   ·obtain ⟨A,N,rfl,z,⟨l,g⟩⟩:=W;have Q:=ev_next z (QeP hj) rfl;refine .go ⟨k+1,QcU L f k,A,M++N,?_,Q,by rw[We];omega,?_,l0++l,by rw[g,hl0,WI]⟩ ?_
    ·show _=mk2 (QcU L f k) _;rw[show w64 ((mk2 f (k:Int)).2.2.2.2.2.2.2.2.2.2.2+1)=((k+1:Nat):Int) from Qb (by show _<=(k:Int)+1/\(k:Int)+1<=_;omega)]
    ·rw[hs,hf];show (if k<f.mv.length then scanN L (20000-(k+1)) (k+1) (QcU L f k) else f)=_;rw[if_pos H]
    ·show 20000-(w64 ((k:Int)+1)).toNat<20000-((k:Int)).toNat;rw[Qb (n:=(k:Int)+1) Oo];omega
  ·have G:¬ k<f.mv.length:=λc=>G (by show (k:Int)<(f.mv.length:Int);omega);have ac:k=M.length:=by omega
   refine .out ⟨f,T,M,rfl,?_,by rw[<- ac];exact s,l0,hl0⟩;rw[hs,hf];show f=if k<f.mv.length then _ else f;rw[if_neg G]
 ·obtain ⟨f,T,M,rfl,I,s,l,hl⟩:=W;refine .some ⟨by rw[<- I],T,M,by rw[<- I];exact s,u,λj w v z g=>?_,X⟩;rw[<- I];exact (y j w v z g).mono λm hm=>by rw[hl];exact Wg _ hm
end
def evE(l:List Inc)(a:EvS)(e:Int):Qp:=⟨a.s,l,a.to,a.mv,e⟩
theorem move_fail{l:List Inc}{a:EvS}{e x:Int}(b:¬ e=0):Qn (evE l a e) x=some (x,evE l a e,a.s.ws,a.s.fs,a.mv):=by unfold Qn;exact if_neg b
section
variable{s0:Sp}{C K:List Itm}{T0:Itm}{sn sk:Nat}{st:EvS}{T:Itm}{M:List (Nat×Nat×Nat)}
theorem move_x(e:EvB s0 C K T0)(h:Xv s0 C K T0 sn sk st T M)(D:sn<=M.length/\(sk=0\/sn<M.length)){x:Int}(H:U64 x)(U:RefOk s0 C x) :
  (MvP (C.map Itm.i) st T.fr x/\∃ T' N,Xv s0 C K T0 sn sk (mv1 (C.map Itm.i) st x).1 T' (M++N)/\ImgP s0 C (mv1 (C.map Itm.i) st x).1.mv x (mv1 (C.map Itm.i) st x).2/\U64 (mv1 (C.map Itm.i) st x).2/\(∃ l,T'.fr=T.fr++l)/\∃ l,(mv1 (C.map Itm.i) st x).1.mv=st.mv++l) \/
   Qn (evE (C.map Itm.i) st 0) x=some (x,evE (C.map Itm.i) st 4,st.s.ws,st.s.fs,st.mv):=by
 by_cases a:∀ r d,Qeq s0 (C.map Itm.i) x->ObjZ (szS s0) C (x-1).toNat r d->(x-1).toNat∉M.map (·.1)->r<=15->d<=32->exN st.s T.i (1+(r:Int)+d)<=(Qk st.s.fs).length
 ·exact .inl (ev_moveB e h D H U a)
 ·right;obtain ⟨r,k⟩:=Classical.not_forall.1 a;obtain ⟨d,k⟩:=Classical.not_forall.1 k;simp only[Classical.not_imp]at k;obtain ⟨u,⟨y,i,p,Q,R⟩,G,r15,v,w⟩:=k;have E:=(ev_win e h x).2 u;obtain ⟨⟨V,W⟩,_⟩:=id E;unfold U64 at H;have I:=XF h.ok;have F:x-1=((adr (szS s0) y.fr p:Nat):Int):=by omega
  obtain ⟨A,_,_,B⟩:=Itm.posOk e.ok (e.cs y i) Q;rw[R]at G;have b:=h.oth y (Wg _ i);have f:st.s.ws[adr (szS s0) y.fr p]?=some (hdW r d):=by rw[<- B];exact h.cw y i p Oo G
  have j:∀ k∈y.fr,k∉T.fr:=b.disj h.inc.toIncC (by rw[h.sq.1];exact e.sqT y (Wg _ i));have m:szS st.s=szS s0:=h.z;have o:SrcP st.s T.fr ((adr (szS s0) y.fr p:Nat):Int) y.fr p r d:=⟨by rw[m],b.ch,b.own,j,by rw[m];exact A,r15,v,by rw[m];exact f⟩;have q:wAt st.s (x-1)=hdW r d:=by rw[F];exact Xh f
  have s:JW (wAt st.s (x-1))=⟨r,d,0,false,0⟩:=by rw[q];exact DecR_hd ⟨Oo,Oo,Oo,Oo⟩
  have t:Qy st.s (x-1)=⟨r,d,0⟩:=by rw[F];exact o.look h.ok
  have J:w64 (wu (x-1))=x-1:=by rw[Xg (n:=x-1) Oo,Qb Oo]
  have g:(x-1).toNat<st.s.ws.length:=by omega
  have L:U64 (wAt st.s (x-1)):=Qfo h.w _;have O:=e.len;refine Gd.eq ?_;unfold Qn evE;refine .pos rfl (.call (Qdm h.ok (C.map Itm.i) (by rw[Wb];omega) (by unfold U64;omega)) (.pos (Qa5 E) ?_));show Gd _ (bndR ((at_ st.s.ws (w64 (wu (x-1)))).bind _) _);rw[J];refine Gd.bndR (P:=λz=>z = .inl ()) ?_ (λ_ _=>?_) (λr S=>by cases S)
  ·refine .at Oo g ?_;rw[<- QcC Oo g];refine .call (decode_c L) ?_;rw[s];exact .pos rfl (.neg (show ¬ (false=true) by decide) (.some rfl))
  ·refine .call (look_c h.ok.shp (Q2 h.ok.fm) h.w (by unfold I64;omega)) ?_;rw[t];refine .pos rfl ?_;dsimp only;rw[Qb (n:=1+(r:Int)) Oo,Qb (n:=1+(r:Int)+d) Oo];have c:=QgM h.ok h.inc (n:=1+(r:Int)+d) ⟨Oo,Oo⟩;rw[if_neg w]at c;rw[<- h.to]at c;exact .call c (.pos rfl (.neg (show ¬ (4:Int)=0 by decide) (.some rfl)))
theorem field_x(d:EvB s0 C K T0){k j:Nat}(h:Xv s0 C K T0 k j st T M){o:Nat×Nat×Nat×Nat}(f:(nob T0.i.words.toNat M)[k]?=some o)(s:j+1<=o.2.2.1){q:Int}(y:q=((adr (szS s0) T.fr (o.2.1+(j+1)):Nat):Int)) :
  (MvP (C.map Itm.i) st T.fr (wAt st.s q)/\(mv1 (C.map Itm.i) st (wAt st.s q)).1.s.ws.length=st.s.ws.length/\(mv1 (C.map Itm.i) st (wAt st.s q)).1.s.fs.length=st.s.fs.length/\∃ T' N,Xv s0 C K T0 k (j+1) (Qfw (C.map Itm.i) st q) T' (M++N)/\(∃ l,T'.fr=T.fr++l)/\∃ l,(Qfw (C.map Itm.i) st q).mv=st.mv++l) \/
   Qn (evE (C.map Itm.i) st 0) (wAt st.s q)=some (wAt st.s q,evE (C.map Itm.i) st 4,st.s.ws,st.s.fs,st.mv):=by
 have I:=d.z0;have g:=Qbf h;have b:=Wq f;have z:=Jp M _ o b;have i:k<M.length:=by have:=(Wo.1 f).1;rwa [Qcl]at this
 have m:=Qej h (q:=o.2.1+(j+1)) Oo;have a:=h.ref k o f (j+1) Oo s;rw[if_neg Oo]at a;obtain ⟨w,hw⟩:∃ w,st.s.ws[adr (szS s0) T.fr (o.2.1+(j+1))]?=some w:=⟨_,Wa m⟩;have n:wAt st.s q=w:=by rw[y];exact Xh hw
 rw[hw]at a;obtain ⟨x,t,p,u,e⟩:=h.src _ (QdE M _ o b);dsimp only at e;have A:U64 w:=h.w.1 w (Wq hw);have c:srcA s0 o.1 (j+1)=adr (szS s0) x.fr (p+(j+1)):=by rw[e];exact Qgm d t u (by show j+1<=o.2.2.1+o.2.2.2;omega)
 have B:RefOk s0 C w:=d.refs x t p _ _ u (j+1) Oo s w (by rw[<- c];exact a.symm);rw[n];rcases move_x d h ⟨Oo,.inr i⟩ A B with ⟨E,T',N,r,F,G,⟨l,v⟩,H⟩ | hf
 ·refine .inl ⟨E,r.wl.trans h.wl.symm,r.fl.trans h.fl.symm,T',N,?_,⟨l,v⟩,by unfold Qfw;rw[n];exact H⟩;have:=ev_set d r (QeP f) s G a.symm F;unfold Qfw;rw[n,y];have D:adr (szS s0) T'.fr (o.2.1+(j+1))=adr (szS s0) T.fr (o.2.1+(j+1)):=by rw[v];exact ZL Oo Oo
  rw[D]at this;exact this
 ·exact .inr hf
end
section
variable{s0:Sp}{C K:List Itm}{T0:Itm}
abbrev LenK(s0:Sp)(st:EvS):Prop:=st.s.ws.length=s0.ws.length/\st.s.fs.length=s0.fs.length
set_option maxHeartbeats 1000000 in
theorem run_x(H:EvB s0 C K T0){d:List Int}(ax:∀ w∈d,U64 w/\RefOk s0 C w)(aC:d.length<=100000) :
  Gd (λr:Inc×List Mov×List Int×Int×List Int×List Fe=>r.2.2.2.2.1.length=s0.ws.length/\r.2.2.2.2.2.length=s0.fs.length/\(r.2.2.2.1=0->∃ st T M,r=(st.to,st.mv,r.2.2.1,0,st.s.ws,st.s.fs)/\EvR s0 C K T0 d st r.2.2.1 T M)) (ZE s0 (C.map Itm.i) T0.i d):=by
 generalize hL:C.map Itm.i=L;unfold ZE;let mk1:EvS×Int×List Int->Int->List Int×List Fe×Int×List Inc×Int×Int×Int×Int×Int×List Mov×Int×List Int×Int:=λt i=>(t.1.s.ws,t.1.s.fs,t.1.s.sh,L,t.1.to.seq,t.1.to.belt,t.1.to.first,t.1.to.last,t.1.to.words,t.1.mv,t.2.1,t.2.2,i);let J:Nat->EvS×Int×List Int->Prop:=λi t=>LenK s0 t.1/\t.2.2.length=i/\(t.2.1=0->(∃ T M,Xv s0 C K T0 0 0 t.1 T M)/\(∀ (j:Nat) (w v:Int),d[j]?=some w->t.2.2[j]?=some v->ImgP s0 C t.1.mv w v)/\∀ v∈t.2.2,U64 v);refine Gd.bind (P:=λb=>∃ t,b=(t.1.s.ws,t.1.s.fs,t.1.s.sh,L,t.1.to.seq,t.1.to.belt,t.1.to.first,t.1.to.last,t.1.to.words,t.1.mv,t.2.1,t.2.2)/\J d.length t) ?_ λb hb=>?_
 ·refine Gd.for d.length mk1 J (⟨s0,T0.i,[]⟩,0,[]) rfl (λ_ _=>rfl) Oo ⟨⟨rfl,rfl⟩,rfl,λ_=>⟨⟨T0,[],H.start⟩,λj w v _ h=>by simp at h,λv h=>absurd h (WV)⟩⟩ (λi hi t A=>?_) (λt A=>⟨t,rfl,A⟩);obtain ⟨st,e,y⟩:=t;obtain ⟨⟨l1,V⟩,u,W⟩:=A;dsimp only at l1 V u W;obtain ⟨ak,al⟩:=ax _ (Wc hi);refine .atN hi ?_;have I:∀ G,¬ G=0->Qn (evE L st e) d[i]=some (d[i],evE L st G,st.s.ws,st.s.fs,st.mv) ->
    Gd (λa=>(∃ t',a=LS.go (mk1 t' (w64 ((i:Int)+1)))/\J (i+1) t')\/∃ o,a=LS.out o/\∃ t,o=(t.1.s.ws,t.1.s.fs,t.1.s.sh,L,t.1.to.seq,t.1.to.belt,t.1.to.first,t.1.to.last,t.1.to.words,t.1.mv,t.2.1,t.2.2)/\J d.length t)
     ((Qn (Qp.mk (Sp.mk st.s.sh st.s.ws st.s.fs) L (Inc.mk st.to.seq st.to.belt st.to.first st.to.last st.to.words) st.mv e) d[i]).bind λf =>
      if f.2.2.1.length=st.s.ws.length then if f.2.2.2.1.length=st.s.fs.length then
       if ((y.length:Int)+[f.1].length)*8<=140737488355328/\(y.length:Int)+[f.1].length<=9223372036854775807 then
        some (.go ((f.2.2.1,f.2.2.2.1,f.2.1.s.sh,f.2.1.l,f.2.1.to.seq,f.2.1.to.belt,f.2.1.to.first,f.2.1.to.last,f.2.1.to.words,f.2.2.2.2,f.2.1.e,y++[f.1],w64 ((i:Int)+1))))
       else none else none else none):=λG aw hF=>by
   refine .call hF (.pos rfl (.pos rfl (.pos (XP (l:=y) Oo Oo) (.some (.inl ⟨(st,G,y++[d[i]]),rfl,⟨l1,V⟩,by dsimp only;rw[We,WJ,u],λh=>absurd h aw⟩)))))
  by_cases p:e=0
  ·subst p;obtain ⟨⟨T,M,s⟩,E,hu⟩:=W rfl;rcases move_x H s ⟨WO _,.inl rfl⟩ ak al with ⟨m1,D,N,m2,m3,m4,_,⟨l,m6⟩⟩ | hf
   ·rw[hL]at m1 m2 m3 m4 m6;refine .call (move_c m1) ?_;refine .pos (show (mv1 L st d[i]).1.s.ws.length=st.s.ws.length from m2.wl.trans s.wl.symm) (.pos (show (mv1 L st d[i]).1.s.fs.length=st.s.fs.length from m2.fl.trans s.fl.symm) (.pos (XP (l:=y) Oo Oo) (.some (.inl ⟨((mv1 L st d[i]).1,0,y++[(mv1 L st d[i]).2]),rfl,⟨m2.wl,m2.fl⟩,by dsimp only;rw[We,WJ,u],λ_=>⟨⟨D,M++N,m2⟩,λj w v B z=>?_,λv hv=>?_⟩⟩))))
    ·dsimp only at z ⊢;rcases Ws j y.length with c | c
     ·rw[WF c]at z;exact (E j w v B z).mono λm hm=>by rw[m6];exact Wg _ hm
     ·rw[WC c]at z;have:j=i:=by
       rcases Ws (j-y.length) 1 with q | q
       ·omega
       ·rw[Wi (by simpa using q)]at z;cases z
      subst this;rw[u,V1]at z;injection z with z;rw[Wa hi]at B;injection B with B;rw[<- B,<- z];exact m3
    ·rcases Wk.1 hv with hv | hv
     ·exact hu v hv
     ·rw[Wn.1 hv];exact m4
   ·rw[hL]at hf;exact I 4 Od hf
  ·exact I e p (move_fail p)
 obtain ⟨⟨X,e1,y⟩,rfl,⟨l1,V⟩,u,Y⟩:=hb;dsimp only at l1 V u Y;let mk2:EvS×Int->Int->List Int×List Fe×Int×List Inc×Int×Int×Int×Int×Int×List Mov×Int×Int:=λt i=>(t.1.s.ws,t.1.s.fs,t.1.s.sh,L,t.1.to.seq,t.1.to.belt,t.1.to.first,t.1.to.last,t.1.to.words,t.1.mv,t.2,i);refine Gd.bind (P:=λb=>∃ st e,b=(st.s.ws,st.s.fs,st.s.sh,L,st.to.seq,st.to.belt,st.to.first,st.to.last,st.to.words,st.mv,e)/\LenK s0 st/\(e=0->e1=0/\∃ T M,Xv s0 C K T0 M.length 0 st T M/\∃ l,st.mv=X.mv++l)) ?_ λb hb=>?_
 ·refine Gd.loop (λx=>∃ (k:Nat) (st:EvS) (e:Int),x=mk2 (st,e) (k:Int)/\LenK s0 st/\k<=20000/\(e=0->e1=0/\∃ T M,Xv s0 C K T0 k 0 st T M/\k<=M.length/\∃ l,st.mv=X.mv++l)) _ (λx=>20001-x.2.2.2.2.2.2.2.2.2.2.2.toNat) ⟨0,X,e1,rfl,⟨l1,V⟩,WO _,λp=>?_⟩ ?_
  ·obtain ⟨⟨T,M,s⟩,_⟩:=Y p;exact ⟨p,T,M,s,WO _,[],Os⟩
  rintro x ⟨k,st,e,rfl,⟨g1,g2⟩,hk20,W⟩;refine .ite (λQ=>?_) λac=>.out ⟨st,e,rfl,⟨g1,g2⟩,λp=>?_⟩
  ·refine .ite (λp=>?_) λp=>.out ⟨st,e,rfl,⟨g1,g2⟩,λh=>absurd h p⟩;have p:e=0:=p;subst p;obtain ⟨F,T,M,s,hk,l0,Z⟩:=W rfl;obtain ⟨hM,am⟩:=ev_len H s;have Q:k<M.length:=by have:(k:Int)<(st.mv.length:Int):=Q;omega
   obtain ⟨o,hj⟩:∃ o,(nob T0.i.words.toNat M)[k]?=some o:=⟨_,Wa (by rw[Qcl];exact Q)⟩;have R:=Wq hj;have af:st.mv[k]?=some ⟨(o.1:Int),((adr (szS s0) T.fr o.2.1:Nat):Int)⟩:=by rw[s.mv];unfold Qfi;rw[Wh,hj];rfl
   obtain ⟨ad,ae⟩:=Wo.1 af;obtain ⟨an,_⟩:=ev_fields H s R;have az:=Jp M _ o R;have ay:o.2.2.1<=15:=by obtain ⟨x,hx,q,ao,e⟩:=s.src _ (QdE M _ o R);exact (Itm.posOk H.ok (H.cs x hx) ao).2.1
   have ag:=Qbf s;have hz:=H.z0;have aA:=XF s.ok;have aB:=Qej s (q:=o.2.1) Oo;have es:(⟨s0.sh,st.s.ws,st.s.fs⟩:Sp)=st.s:=by rw[<- s.sh]
   refine Gd.bind (P:=λb=>∃ g G,b=(g.s.ws,g.s.fs,g.s.sh,L,g.to.seq,g.to.belt,g.to.first,g.to.last,g.to.words,g.mv,G)/\LenK s0 g/\(G=0->∃ D N,Xv s0 C K T0 k o.2.2.1 g D (M++N)/\∃ l,g.mv=st.mv++l)) ?_ λb hb=>?_
   ·refine .at (l:=st.mv) (i:=(k:Int)) Oo (by simpa using ad) ?_;have ab:st.mv[((k:Int)).toNat]'(by simpa using ad)=⟨(o.1:Int),((adr (szS s0) T.fr o.2.1:Nat):Int)⟩:=by simpa using ae
    rw[ab];refine .call (a:=QbX st.s ((adr (szS s0) T.fr o.2.1:Nat):Int)) (by
     show QS ⟨s0.sh,st.s.ws,st.s.fs⟩ _=_
     rw[es]
     exact Qei s.ok.shp (Q2 s.ok.fm) s.w (by unfold I64;dsimp only;omega)) ?_
    rw[an];dsimp only;refine Gd.for ((List.range o.2.2.1).map λj=>((adr (szS s0) T.fr (o.2.1+(j+1)):Nat):Int)).length mk2 (λj t=>LenK s0 t.1/\(t.2=0->∃ D N,Xv s0 C K T0 k j t.1 D (M++N)/\(∃ l,D.fr=T.fr++l)/\∃ l,t.1.mv=st.mv++l)) (st,0) rfl (λ_ _=>rfl) (by rw[Wb,WS];omega)
     ⟨⟨g1,g2⟩,λ_=>⟨T,[],by rw[W6];exact s,⟨[],Os⟩,⟨[],Os⟩⟩⟩ (λj aa t A=>?_) (λt A=>?_)
    ·obtain ⟨t,e⟩:=t;obtain ⟨⟨t1,t2⟩,A⟩:=A;dsimp only at t1 t2 A;refine .atN aa ?_;rw[Wb,WS]at aa;have ah:((List.range o.2.2.1).map λj=>((adr (szS s0) T.fr (o.2.1+(j+1)):Nat):Int))[j]'(by rw[Wb,WS];exact aa)=((adr (szS s0) T.fr (o.2.1+(j+1)):Nat):Int):=by rw[Vt,UT]
     have ai:=Qej s (q:=o.2.1+(j+1)) Oo;rw[ah];have S:0<=((adr (szS s0) T.fr (o.2.1+(j+1)):Nat):Int):=by omega
     have O:(((adr (szS s0) T.fr (o.2.1+(j+1)):Nat):Int)).toNat<t.s.ws.length:=by rw[Wd,t1,<- g1];exact ai
     refine .at S O ?_;rw[show (mk2 (t,e) (j:Int)).1[(((adr (szS s0) T.fr (o.2.1+(j+1)):Nat):Int)).toNat]'O=wAt t.s ((adr (szS s0) T.fr (o.2.1+(j+1)):Nat):Int) from (QcC S O).symm];by_cases p:e=0
     ·subst p;obtain ⟨D,N,B,⟨l,z⟩,⟨V,h3⟩⟩:=A rfl;have hq:((adr (szS s0) T.fr (o.2.1+(j+1)):Nat):Int)=((adr (szS s0) D.fr (o.2.1+(j+1)):Nat):Int):=by rw[z,ZL Oo Oo]
      have U:=field_x H B (QeP hj) Oo hq;generalize ((adr (szS s0) T.fr (o.2.1+(j+1)):Nat):Int)=q at S O U ⊢;rw[hL]at U;rcases U with ⟨x1,x4,x5,aq,N',x6,⟨l',x7⟩,⟨av,x8⟩⟩ | hf
      ·refine .call (move_c x1) (.pos x4 (.pos x5 (.at S (by show q.toNat<(mv1 L t (wAt t.s q)).1.s.ws.length;rw[x4];exact O) (.some (.inl ⟨(Qfw L t q,0),rfl,⟨x6.wl,x6.fl⟩,λ_=>⟨aq,N++N',by rw[<- WI];exact x6,⟨l++l',by rw[x7,z,WI]⟩,⟨V++av,by rw[x8,h3,WI]⟩⟩⟩)))))
      ·exact .call hf (.pos rfl (.pos rfl (.at S O (.some (.inl ⟨(⟨setS t.s q (wAt t.s q),t.to,t.mv⟩,4),rfl,⟨(by show (t.s.ws.set _ _).length=_;rw[Ww];exact t1),t2⟩,λh=>by cases h⟩)))))
     ·generalize ((adr (szS s0) T.fr (o.2.1+(j+1)):Nat):Int)=q at S O ⊢;exact .call (move_fail p) (.pos rfl (.pos rfl (.at S O (.some (.inl ⟨(⟨setS t.s q (wAt t.s q),t.to,t.mv⟩,e),rfl,⟨(by show (t.s.ws.set _ _).length=_;rw[Ww];exact t1),t2⟩,λh=>absurd h p⟩)))))
    ·obtain ⟨t,e⟩:=t;obtain ⟨h0,A⟩:=A;rw[Wb,WS]at A;refine ⟨t,e,rfl,h0,λp=>?_⟩;obtain ⟨D,N,B,_,h3⟩:=A p;exact ⟨D,N,B,h3⟩
   ·obtain ⟨g,G,rfl,h0,ap⟩:=hb;refine .go ⟨k+1,g,G,?_,h0,Oo,λp=>?_⟩ ?_
    ·show _=mk2 (g,G) _;rw[show w64 ((mk2 (st,(0:Int)) (k:Int)).2.2.2.2.2.2.2.2.2.2.2+1)=((k+1:Nat):Int) from Qb (by show _<=(k:Int)+1/\(k:Int)+1<=_;omega)]
    ·obtain ⟨D,N,B,⟨l,z⟩⟩:=ap p;exact ⟨F,D,M++N,ev_next B (QeP hj) rfl,by rw[We];omega,l0++l,by rw[z,Z,WI]⟩
    ·show 20001-(w64 ((k:Int)+1)).toNat<20001-((k:Int)).toNat;rw[Qb (n:=(k:Int)+1) Oo];omega
  ·obtain ⟨F,T,M,s,hk,l0,Z⟩:=W p;obtain ⟨hM,am⟩:=ev_len H s;have ac:¬ k<st.mv.length:=λc=>ac (by show (k:Int)<(st.mv.length:Int);omega);have aj:k=M.length:=by omega
   exact ⟨F,T,M,by rw[<- aj];exact s,l0,Z⟩
 ·obtain ⟨st,e,rfl,⟨g1,g2⟩,W⟩:=hb;refine .some ⟨g1,g2,λp=>?_⟩;have p:e=0:=p;subst p;obtain ⟨F,T,M,s,l,hl⟩:=W rfl;obtain ⟨_,E,hu⟩:=Y F;exact ⟨st,T,M,rfl,s,u,λj w v B z=>(E j w v B z).mono λm hm=>by rw[hl];exact Wg _ hm,hu⟩
end
theorem wu_u(x:Int):0<=wu x/\wu x<=18446744073709551615:=by unfold wu;rw[IntKind.wrap_u64];omega
def Qes(x:Nat):Prop:=x=0\/(Qfx .gtr x 0=true/\Qfx .leq x 4607182418800017408=true)
theorem valid06_c{x:Nat}(h:Qes x):Ji x=some true:=by
 refine Gd.eq ?_;unfold Ji;rcases h with h | ⟨a,b⟩
 ·exact .pos Oo (.some rfl)
 ·exact .ite (λ_=>.some rfl) λ_=>.pos a (.some b)
structure QeE(c:Cfg):Prop where
 name:ZR c.name=some true
 len:1<=c.rules.length/\c.rules.length<=4
 rule:∀ b (h:b<c.rules.length),Qes c.rules[b].share/\(0<=c.rules[b].limit/\c.rules[b].limit<=64)/\(0<=c.rules[b].batch/\c.rules[b].batch<=64)/\(b+1=c.rules.length->c.rules[b].limit=0/\c.rules[b].target=b)/\(b+1<c.rules.length->b<c.rules[b].target/\c.rules[b].target<c.rules.length)
 aim:∀ b,0<b->b<c.rules.length->∃ b',∃ h:b' < c.rules.length,b'+1<c.rules.length/\c.rules[b'].target=b
 full:∀ h:c.rules.length-1<c.rules.length,if Qfx .eql c.rules[c.rules.length-1].share 0=true then 1<=c.full/\c.full<=64 else c.full=0
theorem check_c{c:Cfg}(h:QeE c):ZS c=some 0:=by
 obtain ⟨D,⟨G,H⟩,E,F,j⟩:=h;have y:c.rules.length-1<c.rules.length:=by omega
 have A:w64 ((c.rules.length:Int)-1)=((c.rules.length-1:Nat):Int):=by rw[Qb Oo];omega
 refine Gd.eq ?_;unfold ZS;refine .call D (.pos rfl (.neg Oo (.neg Oo ?_)));refine Gd.bndR (P:=λz=>∃ l:List Bool,z = .inl l/\l.length=4/\∀ b,b<c.rules.length->l[b]?=some true) ?_ (λl n=>?_) (λr n=>by obtain ⟨l,h,_⟩:=n;cases h)
 ·refine Gd.for c.rules.length (λ(t:List Bool) i=>(t,i)) (λi t=>t.length=4/\t[0]?=some true/\∀ a,(h:a < c.rules.length)->a < i->a+1<c.rules.length->t[c.rules[a].target.toNat]?=some true) [true,false,false,false] rfl (λ_ _=>rfl) Oo ⟨rfl,rfl,λa _ h=>absurd h (WT _)⟩ (λi v t o=>?_) (λt o=>?_)
  ·obtain ⟨p,s,u⟩:=o;obtain ⟨r1,r2,r3,r4,r5⟩:=E i v;refine .atN v (.call (valid06_c r1) (.pos rfl (.neg Oo (.neg Oo (.neg Oo (.neg Oo ?_))))));rw[A];refine .ite (λf=>?_) λf=>?_
   ·have f:i+1=c.rules.length:=by dsimp only at f;omega
    obtain ⟨B,C⟩:=r4 f;exact .pos B (.pos C (.some (.inl ⟨t,rfl,p,s,λa g k x=>u a g Oo x⟩)))
   ·have f:i+1<c.rules.length:=by dsimp only at f;omega
    obtain ⟨B,C⟩:=r5 f;have g:c.rules[i].target.toNat<t.length:=by omega
    refine .neg (by dsimp only;omega) (.neg Oo (.pos Oo (.at (l:=t) Oo g (.some (.inl ⟨t.set c.rules[i].target.toNat true,rfl,by rw[Ww];exact p,?_,λa d k x=>?_⟩)))))
    ·rw[WK Oo];exact s
    ·by_cases e:c.rules[i].target.toNat=c.rules[a].target.toNat
     ·rw[<- e,WN g]
     ·rw[WK e];refine u a d ?_ x;rcases Ws a i with q | q
      ·exact q
      ·exact absurd (by congr;omega) e
  ·obtain ⟨p,s,u⟩:=o;refine ⟨t,rfl,p,λb g=>?_⟩;rcases V5 b with rfl | h0
   ·exact s
   ·obtain ⟨a,d,w,k⟩:=F b h0 g;have:=u a d d w;rwa [k]at this
 ·obtain ⟨I,h,J,m⟩:=n;injection h with h;subst h;refine Gd.bndR (P:=λz=>z = .inl ()) ?_ (λ_ _=>?_) (λr n=>by cases n)
  ·refine Gd.for c.rules.length (λ(_:Unit) i=>i) (λ_ _=>True) () rfl (λ_ _=>rfl) Oo trivial (λi v t o=>?_) (λt o=>rfl);have:=m i v;obtain ⟨w,k⟩:=Wo.1 this;exact .pos Oo (.atN w (.pos k (.some (.inl ⟨(),rfl,trivial⟩))))
  ·rw[A];refine .atN y ?_;have j:=j y;refine .ite (λh=>?_) λh=>?_
   ·rw[if_pos h]at j;exact .neg Oo (.neg Oo (.some rfl))
   ·rw[if_neg h]at j;exact .pos j (.some rfl)
def CplP(c:Cfg):Prop:=∃ h:c.rules.length-1<c.rules.length,Qfx .eql c.rules[c.rules.length-1].share 0=true
theorem Qdv{c:Cfg}(h:QeE c):QW c=some (bP (CplP c)):=by
 have b:=h.len;have a:w64 ((c.rules.length:Int)-1)=((c.rules.length-1:Nat):Int):=by rw[Qb Oo];omega
 refine Gd.eq ?_;unfold QW;refine .call (check_c h) (.pos rfl ?_);rw[a];refine .atN Oo ?_;refine Gd.b (p:=CplP c) ⟨λk=>⟨Oo,k⟩,λ⟨_,k⟩=>k⟩
theorem frames06_c{x:Nat}(h:Qes x){n:Int}(d:1<=n/\n<=64):∃ v,XC x n=some (v,0):=by
 suffices h:Gd (λr:Int×Int=>r.2=0) (XC x n) by obtain ⟨r,b,c⟩:=h;exact ⟨r.1,by rw[b,<- c]⟩
 have a:∀ y,0<=wu y:=λy=>(wu_u y).1;unfold XC;refine .call (valid06_c h) (.pos rfl (.neg Oo (.neg Oo ?_)));refine .ite (λ_=>.some rfl) λ_=>?_;refine .ite (λ_=>?_) λ_=>?_
 ·refine .ite (λ_=>.pos (a _) (.some rfl)) λ_=>.some rfl
 ·exact .ite (λ_=>.pos (a _) (.some rfl)) λ_=>.some rfl
def capV(c:Cfg)(b n:Int):Int:=((XW c b n).getD (0,0)).1
theorem cap_c{c:Cfg}(h:QeE c){b n:Int}(f:0<=b/\b<c.rules.length)(e:1<=n/\n<=64):XW c b n=some (capV c b n,0):=by
 have a:b.toNat<c.rules.length:=by omega
 obtain ⟨v,d⟩:=frames06_c (h.rule b.toNat a).1 e;have:XW c b n=some (v,0):=by refine Gd.eq ?_;unfold XW;refine .call (check_c h) (.pos rfl (.neg Oo (.neg Oo (.neg Oo (.neg Oo (.at f.1 a (.call d (.some rfl))))))))
 unfold capV;rw[this];rfl
def QaX(z:Nat)(L:List Itm)(q:Nat):Prop:=∃ x∈L,∃ p r d,(p,r,d)∈obs 0 x.os/\∃ k,1<=k/\k<=r/\q=adr z x.fr (p+k)
def RefW(z:Nat)(L:List Itm)(w:Int):Prop:=w=0\/(1<=w/\∃ r d,ObjZ z L (w-1).toNat r d)
structure QQ(h:Hp)(BL:List (List Itm)):Prop where
 cfg:QeE h.config
 bl:h.belts=BL.map λq=>q.map Itm.i
 bn:BL.length=h.config.rules.length
 sp:QcM h.space BL.flatten
 pos:∀ x∈BL.flatten,1<=x.i.words
 blt:∀ b (hb:b<BL.length),∀ x∈BL[b],x.i.belt=(b:Int)
 asc:∀ q∈BL,q.Pairwise λx y=>x.i.seq<y.i.seq
 sq:∀ x∈BL.flatten,x.i.seq<h.seq
 sq0:0<=h.seq
 rts:Qcz h.roots
 roots:∀ i∈ZY h.roots,1<=Qz h.roots i/\∃ r d,ObjZ (szS h.space) BL.flatten (Qz h.roots i-1).toNat r d
 refs:∀ q,QaX (szS h.space) BL.flatten q->RefW (szS h.space) BL.flatten (wAt h.space (q:Int))
 sok:Ql h.sets
 sin:ZK h.sets
 snd:∀ f t q,InS h.sets f t q->QaX (szS h.space) BL.flatten q.toNat/\f=(Jn h.space q:Int)/\∃ (h2:t.toNat<h.space.fs.length),0<=t/\¬ h.space.fs[t.toNat].ow = -1
 cmp:∀ q,QaX (szS h.space) BL.flatten q->Qby h.space (q:Int) (wAt h.space (q:Int))->InS h.sets (Jn h.space (q:Int):Int) (Jn h.space (wAt h.space (q:Int)-1):Int) (q:Int)
 resv:CplP h.config->2*(h.space.fs.length-(Qk h.space.fs).length)<=h.space.fs.length
section
variable{h:Hp}{BL:List (List Itm)}
theorem QQ.flat(H:QQ h BL):h.belts.flatten=BL.flatten.map Itm.i:=by rw[H.bl,Yr]
theorem QQ.dist(H:QQ h BL):h.belts.flatten.Pairwise λx y=>x.seq≠y.seq:=by rw[H.flat,Vs];exact H.sp.seqs
theorem QQ.count(H:QQ h BL):BL.flatten.length<=64:=by
 have d:∀ (L:List Itm),(∀ x∈L,Qa6 h.space x)->L.Pairwise (λx y=>x.i.seq≠y.i.seq)->(∀ x∈L,1<=x.i.words)->(L.map λx=>(x.fr.head?).getD 0).Nodup/\∀ x∈L,(x.fr.head?).getD 0<h.space.fs.length:=by
  intro L;have b:∀ x,Qa6 h.space x->1<=x.i.words->∃ f l,x.fr=f :: l:=λx a w=>by
   cases e:x.fr with
   | cons f l=>exact ⟨f,l,rfl⟩
   | nil =>have:=a.inc.room H.sp.ok;rw[e]at this;simp at this;omega
  induction L with
  | nil=>intro _ _ _;exact ⟨Os,λx a=>absurd a (WV)⟩
  | cons x L ih =>
   intro c t k;have o:=Vw.1 t;obtain ⟨q,i2⟩:=ih (λy hy=>c y (Wp _ hy)) o.2 λy hy=>k y (Wp _ hy);obtain ⟨f,l,e⟩:=b x (c x (WH ..)) (k x (WH ..));have a:=(c x (WH ..)).inc.toIncC;refine ⟨?_,λy hy=>?_⟩
   ·rw[Vj,UB];refine ⟨λu=>?_,q⟩;obtain ⟨y,hy,j⟩:=Wm.1 u;obtain ⟨g,m,p⟩:=b y (c y (Wp _ hy)) (k y (Wp _ hy));have i:=(c y (Wp _ hy)).inc.toIncC;rw[e,p]at j;simp at j;refine a.disj i (o.1 y hy) f (by rw[e];simp) ?_;rw[p,<- j];simp
   ·rcases Wu.1 hy with rfl | hy
    ·rw[e];exact a.ch.lt f (by rw[e];simp)
    ·exact i2 y hy
 obtain ⟨r,s⟩:=d BL.flatten H.sp.each H.sp.seqs H.pos;have:=QgA r (n:=h.space.fs.length) λf v=>by obtain ⟨x,a,rfl⟩:=Wm.1 v;exact s x a
 rw[Wb]at this;have:=H.sp.ok.shp.hi;omega
theorem QcX{α:Type}{q:List α}:∀ {L:List (List α)},q∈L->q.length<=L.flatten.length
 | a :: L,h=>by
  rw[Vr,We];rcases Wu.1 h with rfl | h
  ·omega
  ·have:=QcX h;omega
theorem QQ.bsz(H:QQ h BL):BSz h.belts:=by have c:=H.cfg.len;have d:=H.count;rw[H.bl];refine ⟨by rw[Wb,H.bn];omega,λq b=>?_⟩;obtain ⟨p,a,rfl⟩:=Wm.1 b;have:=QcX a;rw[Wb];omega
theorem QQ.wd(H:QQ h BL):WdIn h.belts:=by rw[H.bl];intro q c x d;obtain ⟨p,a,rfl⟩:=Wm.1 c;obtain ⟨y,b,rfl⟩:=Wm.1 d;have e:=(H.sp.each y (Vu.2 ⟨p,a,b⟩)).inc.wd;have:=XF H.sp.ok;omega
theorem QQ.bl_at(H:QQ h BL){b:Nat}(a:b<BL.length):h.belts[b]?=some (BL[b].map Itm.i):=by rw[H.bl,Wh,Wa a];rfl
end
def PrefP(a:List Inc)(q:List Int):Prop:=q.length<=a.length/\q.Nodup/\(∀ s∈q,∃ x∈a.take q.length,x.seq=s)/\∀ x∈a.take q.length,x.seq∈q
theorem any_loop{α:Type}{l:List α}{p:α->Bool}(d:l.length<=9223372036854775806){K:Bool->α->Bool}(f:∀ b x,K b x=(b || p x)) :
  Gd (λb=>b=l.any p) (Qf (λ(s:Bool×Int)=>if s.2<(l.length:Int) then((at_ l s.2).bind λv=>if s.1=true then(some (LS.go ((true,w64 (s.2+1))))) else some (LS.go ((p v,w64 (s.2+1))))) else some (LS.out (s.1))) (false,0)):=by
 refine Gd.for l.length (λ(t:Bool) i=>(t,i)) (λi t=>t=(l.take i).any p) false rfl (λ_ _=>rfl) d Os (λi c t a=>?_) (λt a=>by rw[WQ]at a;exact a);refine .atN c ?_;have e:(l.take (i+1)).any p=((l.take i).any p || p l[i]):=by rw[QC c,List.any_append];simp
 refine .ite (λh=>.some (.inl ⟨true,rfl,?_⟩)) λh=>.some (.inl ⟨_,rfl,?_⟩)
 ·have h:t=true:=h;rw[e,<- a,h];rfl
 ·have h:t=false:=by simpa using h
  rw[e,<- a,h];rfl
theorem prefix_c{B:List (List Inc)}(A:BSz B)(q:List Int)(H:q.length<=1000000):Jv B q=some (bP (PrefP B.flatten q)):=by
 have C:=A.flat;refine Gd.eq ?_;unfold Jv;refine .call (all15_c A) ?_;refine .ite (λh=>.f λk=>by have:=k.1;omega) λl=>?_;have l:q.length<=B.flatten.length:=by omega
 have u:(B.flatten.take (Int.toNat (q.length:Int))).drop (Int.toNat 0)=B.flatten.take q.length:=by rw[Wd];rfl
 have d:(0:Int)<=0/\0<=(q.length:Int)/\(q.length:Int)<=(B.flatten.length:Int):=⟨Oo,Oo,Oo⟩;have D:(B.flatten.take q.length).length=q.length:=by rw[Wf];omega
 refine Gd.bndR (P:=λz=>(z = .inl ()/\q.Nodup/\∀ s∈q,∃ x∈B.flatten.take q.length,x.seq=s)\/(z = .inr false/\¬ PrefP B.flatten q)) ?_ (λ_ c=>?_) (λr c=>?_)
 ·refine Gd.for q.length (λ(_:Unit) i=>i) (λi _=>(q.take i).Nodup/\∀ s∈q.take i,∃ x∈B.flatten.take q.length,x.seq=s) () rfl (λ_ _=>rfl) Oo ⟨Os,Os⟩ (λi m t g=>?_) (λt g=>?_)
  ·refine Gd.bndR (P:=λz=>(z = .inl ()/\q[i]∉q.take i/\∃ x∈B.flatten.take q.length,x.seq=q[i])\/(z = .inr (.out (.inr false))/\¬ PrefP B.flatten q)) ?_ (λ_ c=>?_) (λr c=>?_)
   ·refine .atN m ?_;refine Gd.bndR (P:=λz=>(z = .inl ()/\q[i]∉q.take i)\/(z = .inr (.inr (.out (.inr false)))/\¬ PrefP B.flatten q)) ?_ (λ_ c=>?_) (λr c=>?_)
    ·refine Gd.for i (λ(_:Unit) i=>i) (λj _=>∀ k (f:k<q.length),k<j->q[k]≠q[i]) () rfl (λ_ _=>rfl) Oo (λk _ h=>absurd h (WT _)) (λj E t o=>?_) (λt o=>.inl ⟨rfl,λF=>?_⟩)
     ·refine .atN (show j<q.length by omega) (.ite (λh=>.some (.inr ⟨_,rfl,.inr ⟨rfl,λk=>?_⟩⟩)) λh=>.some (.inl ⟨(),rfl,λk f y=>?_⟩))
      ·have:=WA.1 (Vd.1 k.2.1) j i Oo m E;exact this h
      ·by_cases e:k=j
       ·subst e;exact h
       ·exact o k f Oo
     ·obtain ⟨k,f,e⟩:=WL.1 F;rw[Wf]at f;rw[UF]at e;exact o k Oo Oo e
    ·rcases c with ⟨_,w⟩ | ⟨h,_⟩
     ·rw[if_pos d,u];refine Gd.bind (P:=λb=>b=(B.flatten.take q.length).any λx=>decide (x.seq=q[i])) (any_loop Oo (K:=λb x=>b || decide (x.seq=q[i])) λ_ _=>rfl) λb p=>?_;refine .ite (λh=>.some (.inl ⟨rfl,w,?_⟩)) λh=>.some (.inr ⟨rfl,λk=>?_⟩)
      ·rw[p,UM]at h;obtain ⟨x,n,e⟩:=h;exact ⟨x,n,by simpa using e⟩
      ·apply h;rw[p,UM];obtain ⟨x,n,e⟩:=k.2.2.1 _ (Wc m);exact ⟨x,n,by simpa using e⟩
     ·cases h
    ·rcases c with ⟨h,_⟩ | ⟨h,c⟩
     ·cases h
     ·injection h with h;exact .inr ⟨h,c⟩
   ·rcases c with ⟨_,v,y⟩ | ⟨h,_⟩
    ·refine .some (.inl ⟨(),rfl,?_,λs hs=>?_⟩)
     ·rw[QC m,Uq];refine ⟨g.1,Os,λa G b p=>?_⟩;rw[Wn.1 p];rintro rfl;exact v G
     ·rw[QC m]at hs;rcases Wk.1 hs with hs | hs
      ·exact g.2 s hs
      ·rw[Wn.1 hs];exact y
    ·cases h
   ·rcases c with ⟨h,_⟩ | ⟨h,c⟩
    ·cases h
    ·injection h with h;exact .inr ⟨_,h,.inr ⟨rfl,c⟩⟩
  ·rw[WQ]at g;exact .inl ⟨rfl,g⟩
 ·rcases c with ⟨_,w,hs⟩ | ⟨h,_⟩
  ·rw[if_pos d,u];refine Gd.bndR (P:=λz=>(z = .inl ()/\∀ x∈B.flatten.take q.length,x.seq∈q)\/(z = .inr false/\¬ PrefP B.flatten q)) ?_ (λ_ c=>?_) (λr c=>?_)
   ·refine Gd.for (B.flatten.take q.length).length (λ(_:Unit) i=>i) (λi _=>∀ k (f:k<(B.flatten.take q.length).length),k<i->(B.flatten.take q.length)[k].seq∈q) () rfl (λ_ _=>rfl) Oo (λk _ h=>absurd h (WT _)) (λi m t g=>?_) (λt g=>.inl ⟨rfl,λx n=>?_⟩)
    ·refine Gd.bndR (P:=λz=>(z = .inl ()/\(B.flatten.take q.length)[i].seq∈q)\/(z = .inr (.out (.inr false))/\¬ PrefP B.flatten q)) ?_ (λ_ c=>?_) (λr c=>?_)
     ·refine .atN m ?_;refine Gd.bind (P:=λb=>b=q.any λs=>decide ((B.flatten.take q.length)[i].seq=s)) (any_loop Oo (K:=λb x=>b || decide ((B.flatten.take q.length)[i].seq=x)) λ_ _=>rfl) λb p=>?_;refine .ite (λh=>.some (.inl ⟨rfl,?_⟩)) λh=>.some (.inr ⟨rfl,λk=>?_⟩)
      ·rw[p,UM]at h;obtain ⟨x,n,e⟩:=h;have e:(B.flatten.take q.length)[i].seq=x:=by simpa using e
       rw[e];exact n
      ·apply h;rw[p,UM];exact ⟨_,k.2.2.2 _ (Wc m),Os⟩
     ·rcases c with ⟨_,v⟩ | ⟨h,_⟩
      ·refine .some (.inl ⟨(),rfl,λk f y=>?_⟩);by_cases e:k=i
       ·subst e;exact v
       ·exact g k f Oo
      ·cases h
     ·rcases c with ⟨h,_⟩ | ⟨h,c⟩
      ·cases h
      ·injection h with h;exact .inr ⟨_,h,.inr ⟨rfl,c⟩⟩
    ·obtain ⟨k,f,rfl⟩:=WL.1 n;exact g k f f
   ·rcases c with ⟨_,v⟩ | ⟨h,_⟩
    ·exact .t ⟨l,w,hs,v⟩
    ·cases h
   ·rcases c with ⟨h,_⟩ | ⟨h,c⟩
    ·cases h
    ·injection h with h;rw[h,Qfm c]
  ·cases h
 ·rcases c with ⟨h,_⟩ | ⟨h,c⟩
  ·cases h
  ·injection h with h;rw[h,Qfm c]
theorem inc_eq{x y:Inc}:([x.seq,x.belt,x.first,x.last,x.words]:List Int)=[y.seq,y.belt,y.first,y.last,y.words]<->x=y:=by
 constructor
 ·intro h;cases x;cases y
  simp only[Yu,and_true]at h;obtain ⟨a,b,c,d,e⟩:=h;subst a;subst b;subst c;subst d;subst e;rfl
 ·rintro rfl;rfl
def TgtP(B:List (List Inc))(l:List Inc):Prop:=∃ h:0<l.length,(∀ x∈l,B.flatten.find? (λy=>decide (y.seq=x.seq))=some x/\x.belt=l[0].belt)/\PrefP B.flatten (l.map Inc.seq)
def tgtI(h:Hp)(l:List Inc):Inc :=
 let t:=((h.config.rules[((l.head?).getD inc0).belt.toNat]?).map Rul.target).getD 0
 match yngR h.belts t with
 | none=>⟨h.seq,t,-1,-1,0⟩
 | some y=>if (l.any λx=>decide (x.seq=y.seq))=false/\(capV h.config t h.space.fs.length=0\/y.words<w64 (capV h.config t h.space.fs.length*(szS h.space:Int))) then y else ⟨h.seq,t,-1,-1,0⟩
theorem target_c{h:Hp}{Q:List (List Itm)}(H:QQ h Q)(l:List Inc)(S:l.length<=1000000):Xy h l=some (open Classical in if TgtP h.belts l then(tgtI h l,0) else(inc0,1)):=by
 have A:=H.bsz;have F:=H.cfg.len;have G:=H.sp.ok.shp.hi;have R:=H.sp.ok.shp.lo;refine Gd.eq ?_;unfold Xy;refine Gd.bndR (P:=λz=>(z = .inl (l.map Inc.seq)/\∀ x∈l,h.belts.flatten.find? (λy=>decide (y.seq=x.seq))=some x/\∀ C:0<l.length,x.belt=l[0].belt)\/(z = .inr (inc0,1)/\¬ TgtP h.belts l)) ?_ (λb j=>?_) (λr j=>?_)
 ·refine Gd.for l.length (λ(t:List Int) i=>(t,i)) (λi t=>t=(l.take i).map Inc.seq/\∀ x∈l.take i,h.belts.flatten.find? (λy=>decide (y.seq=x.seq))=some x/\∀ C:0<l.length,x.belt=l[0].belt) [] rfl (λ_ _=>rfl) Oo ⟨Os,Os⟩ (λi m t a=>?_) (λt a=>?_)
  ·obtain ⟨v,w⟩:=a;have I:t.length<=1000000:=by rw[v,Wb,Wf];omega
   have o:l[i]∈l:=Wc m;refine .atN m (.call (find11_c A _) ?_);cases hf:h.belts.flatten.find? (λy=>decide (y.seq=l[i].seq)) with
   | none=>exact .neg (by simp[optI]) (.some (.inr ⟨_,rfl,.inr ⟨rfl,λ⟨_,k,_⟩=>by have:=(k _ o).1;rw[hf]at this;cases this⟩⟩))
   | some y =>
    refine .pos rfl ?_;refine .ite (λp=>?_) λp=>.some (.inr ⟨_,rfl,.inr ⟨rfl,λ⟨_,k,_⟩=>?_⟩⟩)
    ·have p:y=l[i]:=inc_eq.1 p;subst p;refine .at0 Oo (.ite (λd=>.pos (XP (l:=t) I Oo) (.some (.inl ⟨_,rfl,?_,λx hx=>?_⟩))) λd=>.some (.inr ⟨_,rfl,.inr ⟨rfl,λ⟨_,k,_⟩=>d (k _ o).2⟩⟩))
     ·rw[QC m,WP,v];rfl
     ·rw[QC m]at hx;rcases Wk.1 hx with hx | hx
      ·exact w x hx
      ·rw[Wn.1 hx];exact ⟨hf,λ_=>d⟩
    ·apply p;have:=(k _ o).1;rw[hf]at this;injection this with this;exact inc_eq.2 this
  ·obtain ⟨v,w⟩:=a;rw[WQ]at v w;exact .inl ⟨by rw[v],w⟩
 ·rcases j with ⟨d,j⟩ | ⟨d,_⟩
  ·injection d with d;subst d;refine .ite (λC=>.some (by rw[if_neg λ⟨k,_⟩=>by omega])) λC=>?_;have f:0<l.length:=by omega
   refine .call (prefix_c A (l.map Inc.seq) (by rw[Wb];omega)) ?_;refine .ite (λD=>?_) λD=>.some (by rw[if_neg λ⟨_,_,k⟩=>D (Qa5 k)]);have J:TgtP h.belts l:=⟨f,λx hx=>⟨(j x hx).1,(j x hx).2 f⟩,QI.1 D⟩;rw[if_pos J];have s:l[0]∈h.belts.flatten:=Ug (j _ (Wc f)).1;obtain ⟨b,hbl,hbelt⟩:∃ b:Nat,b<h.config.rules.length/\l[0].belt=(b:Int):=by rw[H.flat]at s;obtain ⟨x,hx,L⟩:=Wm.1 s;obtain ⟨q,M,B⟩:=Vu.1 hx;obtain ⟨b,d,rfl⟩:=WL.1 M;exact ⟨b,by rw[<- H.bn];exact d,by rw[<- L];exact H.blt b d x B⟩
   obtain ⟨_,_,_,N,O⟩:=H.cfg.rule b hbl;have a:0<=h.config.rules[b].target/\h.config.rules[b].target<h.config.rules.length:=by
    rcases Ws (b+1) h.config.rules.length with c | c
    ·have:=O c;omega
    ·have:=(N Oo).2;omega
   have K:((h.config.rules[((l.head?).getD inc0).belt.toNat]?).map Rul.target).getD 0=h.config.rules[b].target:=by rw[Yl,Wa f,WG,hbelt,Wd,Wa hbl];rfl
   unfold tgtI;rw[K];refine .at0 f ?_;rw[hbelt];refine .atN hbl ?_;refine .call (cap_c H.cfg a (n:=(h.space.fs.length:Int)) ⟨Oo,Oo⟩) ?_;refine .call (Qdl A _) ?_;dsimp only;generalize h.config.rules[b].target=t at a ⊢;generalize capV h.config t h.space.fs.length=cp;cases hy:yngR h.belts t with
   | none =>
    refine Gd.bind (P:=λb=>b=false) ?_ λb d=>?_
    ·refine Gd.for l.length (λ(t:Bool) i=>(t,i)) (λi t=>t=false) false rfl (λ_ _=>rfl) Oo rfl (λi m t a=>?_) (λt a=>by rw[a]);subst a;exact .atN m (.neg Os (.some (.inl ⟨_,rfl,rfl⟩)))
    ·subst d;exact .neg Os (.some rfl)
   | some y =>
    rw[show optI (some y)=(y,true) from rfl];dsimp only;refine Gd.bind (P:=λb=>b=!(l.any λx=>decide (x.seq=y.seq))) ?_ λb d=>?_
    ·refine Gd.for l.length (λ(t:Bool) i=>(t,i)) (λi t=>t=!((l.take i).any λx=>decide (x.seq=y.seq))) true rfl (λ_ _=>rfl) Oo Os (λi m t a=>?_) (λt a=>by rw[WQ]at a;rw[a]);have e:((l.take (i+1)).any λx=>decide (x.seq=y.seq))=(((l.take i).any λx=>decide (x.seq=y.seq)) || decide (l[i].seq=y.seq)):=by rw[QC m,List.any_append];simp
     refine .atN m (.ite (λg=>.some (.inl ⟨_,rfl,?_⟩)) λg=>.some (.inl ⟨_,rfl,?_⟩))
     ·have g:t=true:=g;rw[a]at g;have:((l.take i).any λx=>decide (x.seq=y.seq))=false:=by simpa using g
      rw[e,this];rfl
     ·have g:t=false:=by simpa using g
      rw[a]at g;have:((l.take i).any λx=>decide (x.seq=y.seq))=true:=by simpa using g
      rw[e,this];rfl
    ·subst d;refine .ite (λu=>?_) λu=>?_
     ·have u:(l.any λx=>decide (x.seq=y.seq))=false:=by simpa using u
      refine .call (open_c H.sp.ok.shp.sh _ _) ?_;refine .ite (λE=>.some ?_) λE=>.some ?_
      ·rw[if_pos ⟨u,by simpa using E⟩]
      ·rw[if_neg];rintro ⟨_,k⟩;apply E;simpa using k
     ·refine .some ?_;rw[if_neg];rintro ⟨k,_⟩;apply u;rw[k];rfl
  ·cases d
 ·rcases j with ⟨h,_⟩ | ⟨h,j⟩
  ·cases h
  ·injection h with h;rw[if_neg j];exact h
def XJ(d:Qc):Prop:=(∀ x∈d.l,I64 x)/\0<=d.pos/\d.l.length<=9223372036854775807
theorem next_spec{d:Qc}(h:XJ d){n:Int}(k:1<=n/\n<=9223372036854775807):∃ v d',Qd d n=some (v,d')/\0<=v/\v<n/\XJ d':=by
 obtain ⟨a,b,c⟩:=h;unfold Qd;by_cases e:(d.l.length:Int)<=d.pos
 ·rw[if_pos e];exact ⟨0,d,rfl,Oo,Oo,a,b,c⟩
 ·rw[if_neg e];have f:w64 (d.pos+1)=d.pos+1:=Qb Oo;have g:w64 (d.pos+1-1)=d.pos:=by rw[Qb Oo];omega
  obtain ⟨v,i,j⟩:=at_ex (l:=d.l) b Oo;rw[f,g,i];simp only[WB];rw[mod_c (a v j) k];refine ⟨v%n,_,rfl,V4 _ Oo,V6 _ Oo,a,?_,c⟩;show 0<=d.pos+1;omega
theorem new_spec{k n:Int}(b:QcQ k)(u:2<=n/\n<=64):QaA k n=some (newS k n.toNat,0):=by
 have g:=b;unfold QcQ at b;have h:Zr k=some true:=by unfold Zr;simp[b.1,b.2]
 unfold QaA;refine QdU h ?_;obtain ⟨e,he⟩:∃ e:Nat,k=e:=⟨k.toNat,Oo⟩;obtain ⟨m,hm⟩:∃ m:Nat,n=m:=⟨n.toNat,Oo⟩;subst he;subst hm;have i:(2:Nat)^e<=2^8:=UE Od Oo;have hp0:0<(2:Nat)^e:=Nat.pow_pos Od;have d:m*2^e<=64*256:=VP Oo i;have f:(m:Int)*2^e=((m*2^e:Nat):Int):=by push_cast;rfl
 have c:Qbv .i64 (m:Int) (e:Int)=((m*2^e:Nat):Int):=by rw[shl_pow Oo (by rw[f];omega),f]
 have l:wu (e:Int)=(e:Int):=Xg Oo;rw[if_pos rfl,if_neg Oo,if_neg Oo,l,if_pos Oo,c,if_pos Oo,if_pos Oo];have lp:Qf (λ(a:List Fe×Int) =>
   if a.2<((List.replicate (Int.toNat (m:Int)) (Fe.mk 0 0 0)).length:Int) then
    ((at_ a.1 a.2).bind λs=>some (.go ((a.1.set (Int.toNat a.2) (Fe.mk (-1) (-1) (-1)),w64 (a.2+1)))))
   else some (.out a.1)) (List.replicate (Int.toNat (m:Int)) (Fe.mk 0 0 0),0)=some (List.replicate m feF):=by
  have o:List.replicate (Int.toNat (m:Int)) (Fe.mk 0 0 0)=List.replicate 0 feF++List.replicate (m-0) (Fe.mk 0 0 0):=by simp
  rw[o]
  refine Qf3 (σ:=List Fe×Int) (λj=>(List.replicate j feF++List.replicate (m-j) (Fe.mk 0 0 0),(j:Int))) m (λj t=>?_) ?_
  ·dsimp only
   have p:(List.replicate j feF++List.replicate (m-j) (Fe.mk 0 0 0)).length=m:=by simp;omega
   rw[if_pos (by simp;omega),Qg0 (by rw[p];exact t)]
   simp only[WB]
   rw[Qb Oo,Wd]
   have r:(List.replicate j feF++List.replicate (m-j) (Fe.mk 0 0 0)).set j (Fe.mk (-1) (-1) (-1))=List.replicate (j+1) feF++List.replicate (m-(j+1)) (Fe.mk 0 0 0):=by
    rw[Yn _ _ Os,W2,V1]
    obtain ⟨q,hq⟩:∃ q,m-j=q+1:=⟨m-j-1,Oo⟩
    rw[hq,U8,List.set_cons_zero,show m-(j+1)=q by omega,Yt]
    simp
   rw[r]
   rfl
  ·dsimp only
   rw[if_neg Os,V1]
   simp
 refine QdU lp ?_;unfold newS;rw[Wd];simp
theorem new_inv{k:Int}{n:Nat}(p:QcQ k)(g:2<=n/\n<=64):QcM (newS k n) []:=by
 have b:∀ i (h:i<(newS k n).fs.length),(newS k n).fs[i]=feF:=λi h=>by simp[newS]
 refine ⟨⟨⟨p,by simp[newS];exact g.1,by simp[newS];exact g.2,by simp[newS,szS]⟩,λi c=>.inl ?_,λi j c q l _ e=>by rw[b],λi c=>?_⟩,⟨λx d=>?_,λf m=>?_⟩,λx d=>(by cases d),YJ,λi c o=>absurd (by rw[b]) o⟩
 ·rw[b];exact ⟨rfl,rfl,rfl,λa r _ _=>by simp[newS]⟩
 ·rw[Qcp c,b];exact XN _ rfl
 ·have:=Um (show x∈List.replicate _ (0:Int) from d);subst this;unfold U64;omega
 ·have:=Um (show f∈List.replicate _ feF from m);subst this;unfold I64;exact ⟨by show _<=(-1:Int)/\(-1:Int)<=_;omega,by show _<=(-1:Int)/\(-1:Int)<=_;omega,by show _<=(-1:Int)/\(-1:Int)<=_;omega⟩
theorem QcM.add{s:Sp}{L:List Itm}(h:QcM s L){q b:Int}(m:0<=q/\q<=4294967295)(g:0<=b/\b<4)(i:∀ x∈L,x.i.seq≠q):QcM s (L++[⟨⟨q,b,-1,-1,0⟩,[],[]⟩]):=by
 obtain ⟨n,o,p,r,t⟩:=h.ok.shp.z;refine ⟨h.ok,h.w,λx hx=>?_,?_,λk d j=>?_⟩
 ·rcases Wk.1 hx with hx | hx
  ·exact h.each x hx
  ·rw[Wn]at hx;subst hx;refine ⟨⟨⟨m,g,trivial,YJ,λk d=>⟨λe=>?_,λe=>by cases e⟩,(λk d e=>by cases e),rfl,rfl⟩,⟨by show (0:Int)<=0;omega,by show (0:Int)<=_;omega⟩,?_⟩,rfl⟩
   ·have e:s.fs[k].ow=q:=e;obtain ⟨y,f,c⟩:=h.all k d (by rw[e];omega);have:=((h.each y f).inc.ow k d).2 c;exact absurd (this.symm.trans e) (i y f)
   ·show ((0:Nat):Int)=clN s ((0:Nat):Int);rw[QdS h.ok.shp.sh Oo,W0,Yo Oo]
 ·refine Ve.2 ⟨h.seqs,Os,λa l b g=>?_⟩;rw[Wn]at g;subst g;exact i a l
 ·obtain ⟨y,f,c⟩:=h.all k d j;exact ⟨y,by simp[f],c⟩
theorem QcM.drop{s:Sp}{L:List Itm}{x:Itm}(h:QcM s (L++[x]))(f:x.i.words=0):QcM s L:=by
 have b:=(h.each x Os).inc.nil h.ok.shp f;refine ⟨h.ok,h.w,λy c=>h.each y (by simp[c]),(Ve.1 h.seqs).1,λk d e=>?_⟩;obtain ⟨y,c,a⟩:=h.all k d e;rcases Wk.1 c with h1 | h1
 ·exact ⟨y,h1,a⟩
 ·rw[Wn]at h1;subst h1;rw[b]at a;cases a
abbrev newI(q b:Int):Itm:=⟨⟨q,b,-1,-1,0⟩,[],[]⟩
structure StepB(h:Hp)(BL:List (List Itm))(l:List Inc)(C K:List Itm)(T0:Itm):Prop where
 ci:C.map Itm.i=l
 cin:∀ x∈C,x∈BL.flatten
 kin:∀ x,x∈K<->x∈BL.flatten/\x∉C/\x≠T0
 tin:(T0∈BL.flatten/\T0∉C)\/∃ b,T0=newI h.seq b
 tb:0<=T0.i.belt/\T0.i.belt<h.config.rules.length
structure StepC(h:Hp)(BL:List (List Itm))(l:List Inc)(C K:List Itm)(T0:Itm):Prop extends StepB h BL l C K T0 where
 ti:T0.i=tgtI h l
 tw:0<T0.i.words<->T0∈BL.flatten
section
variable{h:Hp}{BL:List (List Itm)}{l:List Inc}
theorem QQ.uniq(H:QQ h BL){x y:Itm}(b:x∈BL.flatten)(a:y∈BL.flatten)(e:x.i.seq=y.i.seq):x=y:=by
 rcases pair_cases H.sp.seqs x b y a with k | k | k
 ·exact k
 ·exact absurd e k
 ·exact absurd e.symm k
theorem QQ.belt_in(H:QQ h BL){x:Itm}(d:x∈BL.flatten):∃ b:Nat,∃ hb:b<BL.length,x∈BL[b]/\x.i.belt=(b:Int):=by obtain ⟨q,c,a⟩:=Vu.1 d;obtain ⟨b,hb,rfl⟩:=WL.1 c;exact ⟨b,hb,a,H.blt b hb x a⟩
theorem QQ.yng(H:QQ h BL){t:Int}{y:Inc}(b:yngR h.belts t=some y):∃ x∈BL.flatten,x.i=y/\y.belt=t:=by
 unfold yngR at b;split at b
 ·cases b
 ·rename_i h0;cases a:h.belts[t.toNat]? with
  | none=>rw[a]at b;cases b
  | some q =>
   rw[a,WB]at b;have e:=Ua b;rw[H.bl,Wh]at a;cases hb2:BL[t.toNat]? with
   | none=>rw[hb2]at a;cases a
   | some p =>rw[hb2,Wx]at a;injection a with a;subst a;obtain ⟨x,c,rfl⟩:=Wm.1 e;obtain ⟨d,rfl⟩:=Wo.1 hb2;refine ⟨x,Vu.2 ⟨_,Wc d,c⟩,rfl,?_⟩;rw[H.blt _ d x c];omega
theorem TgtP.mem(H:QQ h BL)(d:TgtP h.belts l){i:Inc}(c:i∈l):∃ x∈BL.flatten,x.i=i:=by obtain ⟨_,a,_⟩:=d;have:=Ug (a i c).1;rw[H.flat]at this;obtain ⟨x,b,e⟩:=Wm.1 this;exact ⟨x,b,e⟩
theorem TgtP.nodup(b:TgtP h.belts l):(l.map Inc.seq).Nodup:=by obtain ⟨_,_,a⟩:=b;exact a.2.1
theorem tgt_belt(H:QQ h BL)(f:TgtP h.belts l):∃ t,(((h.config.rules[((l.head?).getD inc0).belt.toNat]?).map Rul.target).getD 0)=t/\0<=t/\t<h.config.rules.length:=by
 obtain ⟨x,g,e⟩:=f.mem H (i:=l[0]'f.1) (Wc _);obtain ⟨b,j,_,a⟩:=H.belt_in g;have d:b<h.config.rules.length:=by rw[<- H.bn];exact j
 obtain ⟨_,_,_,k,m⟩:=H.cfg.rule b d;refine ⟨h.config.rules[b].target,?_,?_⟩
 ·rw[Yl,Wa f.1,WG,<- e,a,Wd,Wa d];rfl
 ·rcases Ws (b+1) h.config.rules.length with c | c
  ·have:=m c;omega
  ·have:=(k Oo).2;omega
theorem step_parts(H:QQ h BL)(s:TgtP h.belts l):∃ C K T0,StepC h BL l C K T0:=by
 obtain ⟨t,k,p,q⟩:=tgt_belt H s;have u:∀ l:List Inc,(∀ i∈l,∃ x∈BL.flatten,x.i=i)->∃ C:List Itm,C.map Itm.i=l/\∀ x∈C,x∈BL.flatten:=by
  intro l;induction l with
  | nil=>intro _;exact ⟨[],rfl,λx c=>absurd c (WV)⟩
  | cons i l ih =>
   intro r;obtain ⟨x,c,e⟩:=r i (WH ..);obtain ⟨C,f,m⟩:=ih λj A=>r j (Wp _ A);refine ⟨x :: C,by rw[Vj,e,f],λy hy=>?_⟩;rcases Wu.1 hy with rfl | hy
   ·exact c
   ·exact m y hy
 obtain ⟨C,f,m⟩:=u l λi B=>s.mem H B;have fin:∀ T0:Itm,T0.i=tgtI h l->((T0∈BL.flatten/\T0∉C)\/∃ b,T0=newI h.seq b)->(0<=T0.i.belt/\T0.i.belt<h.config.rules.length)->∃ C K T0,StepC h BL l C K T0:=λT0 d g D=>by
  refine ⟨C,BL.flatten.filter λx=>bP (x∉C/\x≠T0),T0,⟨f,m,λx=>?_,g,D⟩,d,?_⟩
  ·rw[WX,QI]
  ·constructor
   ·intro w;rcases g with g | ⟨b,rfl⟩
    ·exact g.1
    ·exact absurd w (Int.lt_irrefl 0)
   ·intro z;have:=H.pos T0 z;omega
 have a:tgtI h l=⟨h.seq,t,-1,-1,0⟩->∃ C K T0,StepC h BL l C K T0:=λe=>fin (newI h.seq t) e.symm (.inr ⟨t,rfl⟩) ⟨p,q⟩;cases hy:yngR h.belts t with
 | none =>refine a ?_;unfold tgtI;rw[k];dsimp only;rw[hy]
 | some y =>
  by_cases n:(l.any λx=>decide (x.seq=y.seq))=false/\(capV h.config t h.space.fs.length=0\/y.words<w64 (capV h.config t h.space.fs.length*(szS h.space:Int)))
  ·obtain ⟨x,c,e,v⟩:=H.yng hy;refine fin x ?_ (.inl ⟨c,λo=>?_⟩) ?_
   ·unfold tgtI;rw[k];dsimp only;rw[hy];dsimp only;rw[if_pos n];exact e
   ·have d:=n.1;rw[List.any_eq_false]at d;refine d x.i (by rw[<- f];exact Vc o) ?_;rw[e];simp
   ·rw[e,v];exact ⟨p,q⟩
  ·refine a ?_;unfold tgtI;rw[k];dsimp only;rw[hy];dsimp only;rw[if_neg n]
theorem obj_frame{s:Sp}(a:Zn s){x:Itm}(c:Qa6 s x){p r d:Nat}(b:(p,r,d)∈obs 0 x.os){k:Nat}(f:k<=r+d):Jn s ((adr (szS s) x.fr (p+k):Nat):Int)∈x.fr:=by have e:=(Jo a.shp.sh).2.2.1;have:=Itm.posOk a c b;unfold Jn;rw[Wd];exact adr_fr Oo Oo
theorem ref_ok(H:QQ h BL){C K:List Itm}{t:Itm}(S:StepB h BL l C K t){w:Int}(g:RefW (szS h.space) BL.flatten w):RefOk h.space C w:=by
 intro a;rcases g with g | ⟨o,p,q,y,i,r,b,n⟩
 ·exact absurd g a.1.1
 ·obtain ⟨c,d,f⟩:=(Qed λx s=>(H.sp.each x (S.cin x s)).inc.toIncC).1 a.2;have m:=obj_frame H.sp.ok (H.sp.each y i) b (k:=0) Oo;rw[Vz,<- n,show (((w-1).toNat:Nat):Int)=w-1 by omega]at m;have e:y=c:=by refine Classical.byContradiction λj=>?_;exact (H.sp.each y i).inc.toIncC.disj (H.sp.each c (S.cin c d)).inc.toIncC (λe=>j (H.uniq i (S.cin c d) e)) _ m f
  exact ⟨p,q,y,e▸d,r,b,n⟩
theorem step_ctxB(H:QQ h BL){C K:List Itm}{g:Itm}(S:StepB h BL l C K g)(i:(l.map Inc.seq).Nodup)(M:h.seq<=4294967295)(N:l.length<=1000000):EvB h.space C K g:=by
 have o:Qa6 h.space g:=by
  rcases S.tin with k | ⟨b,e⟩
  ·exact H.sp.each g k.1
  ·have s:=S.tb;have t:=H.cfg.len;rw[e]at s ⊢;have:=H.sp.add (q:=h.seq) (b:=b) ⟨H.sq0,M⟩ ⟨s.1,by dsimp only at s;omega⟩ λx a=>by have:=H.sq x a;omega
   exact this.each _ (Wj _ (Wn.2 rfl))
 have u:∀ x∈BL.flatten,x≠g->x.i.seq≠g.i.seq:=λx a A e=>by
  rcases S.tin with k | ⟨b,z⟩
  ·exact A (H.uniq a k.1 e)
  ·have:=H.sq x a;rw[z]at e;dsimp only at e;omega
 have v:∀ x∈C,x≠g:=λx a e=>by
  rcases S.tin with k | ⟨b,z⟩
  ·exact k.2 (e▸a)
  ·have:=H.sq x (S.cin x a);rw[e,z]at this;dsimp only at this;omega
 have c:∀ x∈C++K,x∈BL.flatten/\x≠g:=λx a=>by
  rcases Wk.1 a with k | k
  ·exact ⟨S.cin x k,v x k⟩
  ·exact ⟨((S.kin x).1 k).1,((S.kin x).1 k).2.2⟩
 refine ⟨H.sp.ok,H.sp.w,λx a=>H.sp.each x (S.cin x a),λx a=>H.sp.each x ((S.kin x).1 a).1,o,λx a=>u x (c x a).1 (c x a).2,λx a y B e=>?_,λx a y B e=>H.uniq (c x a).1 (c y B).1 e,λk F G=>?_,λx a p r d I k J n w L=>?_,by rw[<- Wb (f:=Itm.i),S.ci];exact N,?_⟩
 ·have n:=(S.kin y).1 B;exact n.2.1 (H.uniq (S.cin x a) n.1 e▸a)
 ·obtain ⟨x,a,m⟩:=H.sp.all k F G;by_cases D:x=g
  ·exact .inl (D▸m)
  ·by_cases E:x∈C
   ·exact .inr ⟨x,Wg _ E,m⟩
   ·exact .inr ⟨x,Wj _ ((S.kin x).2 ⟨a,E,D⟩),m⟩
 ·have j:QaX (szS h.space) BL.flatten (adr (szS h.space) x.fr (p+k)):=⟨x,S.cin x a,p,r,d,I,k,J,n,rfl⟩;have t:=H.refs _ j;rw[Xh L]at t;exact ref_ok H S t
 ·rw[<- S.ci,Va]at i;rw[Vd]at i ⊢;rw[Vs]at i;exact i.imp λk e=>k (by rw[e])
theorem step_ctx(H:QQ h BL)(e:TgtP h.belts l){C K:List Itm}{b:Itm}(S:StepC h BL l C K b)(c:h.seq<=4294967295)(a:sumF h.space C<=(Qk h.space.fs).length)(d:l.length<=1000000):EvC h.space C K b :=
 { step_ctxB H S.toStepB e.nodup c d with need:=a }
end
def wrtL:List Int->List Int->List Int->List Int
 | l,q :: qs,v :: vs=>wrtL (l.set q.toNat v) qs vs
 | l,_,_=>l
theorem Qd6:∀ (c vs l:List Int) (q v:Int),c.length=vs.length->wrtL l (c++[q]) (vs++[v])=(wrtL l c vs).set q.toNat v
 | [],[],l,q,v,_=>rfl
 | a :: c,b :: vs,l,q,v,h=>Qd6 c vs _ q v (by simpa using h)
@[simp] theorem QaC:∀ (qs vs l:List Int),(wrtL l qs vs).length=l.length
 | [],vs,l=>by cases vs <;> rfl
 | a :: qs,[],l=>rfl
 | a :: qs,b :: vs,l=>by show (wrtL _ qs vs).length=_;rw[QaC qs vs,Ww]
theorem QcR:∀ (c vs l:List Int) (x:Nat),(∀ q∈c,q.toNat≠x)->(wrtL l c vs)[x]?=l[x]?
 | [],vs,l,x,_=>by cases vs <;> rfl
 | a :: c,[],l,x,_=>rfl
 | a :: c,b :: vs,l,x,h=>by show (wrtL _ c vs)[x]?=_;rw[QcR c vs _ x λq d=>h q (Wp _ d),WK (h a (WH ..))]
theorem wrtL_at:∀ (c vs l:List Int),c.Pairwise (λa b=>a.toNat≠b.toNat)->c.length=vs.length->(∀ q∈c,q.toNat<l.length)->∀ (j:Nat) (q v:Int),c[j]?=some q->vs[j]?=some v->(wrtL l c vs)[q.toNat]?=some v
 | [],vs,l,_,_,_,j,q,v,h,_=>by simp at h
 | a :: c,[],l,_,h,_,_,_,_,_,_=>by simp at h
 | a :: c,b :: vs,l,hp,hl,hb,0,q,v,d,f=>by injection d with d;injection f with f;subst d;subst f;have g:=Vw.1 hp;show (wrtL _ c vs)[a.toNat]?=_;rw[QcR c vs _ _ λq i e=>g.1 q i e.symm,WN (hb a (WH ..))]
 | a :: c,b :: vs,l,hp,hl,hb,j+1,q,v,d,f=>by have g:=Vw.1 hp;exact wrtL_at c vs _ g.2 (by simpa using hl) (λq i=>by rw[Ww];exact hb q (Wp _ i)) j q v d f
theorem QfT{p:Int->Prop}:∀ (d vs l:List Int),(∀ x∈l,p x)->(∀ x∈vs,p x)->∀ x∈wrtL l d vs,p x
 | [],vs,l,h,_=>by cases vs <;> exact h
 | a :: d,[],l,h,_=>h
 | a :: d,b :: vs,l,h,k=>QfT d vs _ (λx c=>by
   rcases WY c with c | rfl
   ·exact h x c
   ·exact k x (WH ..)) λx c=>k x (Wp _ c)
def stpW(h:Hp)(l:List Inc):List Int:=(JB h.space h.roots l).map (Qz h.roots)++(QaE h.space h.sets l).map (wAt h.space)
def Jb(h:Hp)(l:List Inc):EvS×List Int:=runE l h.space (tgtI h l) (stpW h l)
def stpR(h:Hp)(l:List Inc):List Int:=wrtL h.roots.refs ((JB h.space h.roots l).map λ(i:Nat)=>(i:Int)) ((Jb h l).2.take (JB h.space h.roots l).length)
def XL(h:Hp)(l:List Inc):Sp:=⟨h.space.sh,wrtL (Jb h l).1.s.ws (QaE h.space h.sets l) ((Jb h l).2.drop (JB h.space h.roots l).length),(Jb h l).1.s.fs⟩
def QbP(s:Sp)(l:List Inc):Sp:=l.foldl (λs x=>⟨s.sh,QcK (szS s) s.fs x.seq s.ws,Qbg s.fs x.seq⟩) s
theorem clrA_sh:∀ (l:List Inc) (s:Sp),(QbP s l).sh=s.sh
 | [],s=>rfl
 | x :: l,s=>by show (QbP ⟨s.sh,QcK (szS s) s.fs x.seq s.ws,Qbg s.fs x.seq⟩ l).sh=s.sh;rw[clrA_sh l]
def remA(B:List (List Inc))(l:List Inc):List (List Inc):=l.foldl (λB x=>remB B x.seq) B
def stpB(h:Hp)(l:List Inc):List (List Inc)×Int := if 0<(tgtI h l).words then(repB (remA h.belts l) (Jb h l).1.to,h.seq) else if 0<(Jb h l).1.to.words then(addB (remA h.belts l) (Jb h l).1.to,w64 (h.seq+1)) else(remA h.belts l,h.seq)
def stpN(h:Hp)(l:List Inc):Int:=intoN h.sets ((cfr h.space.fs l).map λ(k:Nat)=>(k:Int))
def stpP(h:Hp)(l:List Inc):Rpt :=
 let u:=w64 ((Jb h l).1.to.words-(tgtI h l).words)
 ⟨sumW l,u,stpN h l,w64 (w64 (((ZY h.roots).length:Int)+stpN h l)+w64 (2*u))⟩
def ZW(h:Hp)(l:List Inc):Hp := ⟨h.config,⟨h.space.sh,(QbP (XL h l) l).ws,(QbP (XL h l) l).fs⟩,(stpB h l).1,(stpB h l).2,renK (XL h l) h.sets l (QaE h.space h.sets l) (Jb h l).1.mv,⟨h.roots.used,stpR h l⟩,h.since, ⟨h.stats.allocated,h.stats.objects,h.stats.collections,w64 (h.stats.steps+1),h.stats.rounds,w64 (h.stats.condemned+(stpP h l).condemned),w64 (h.stats.copied+(stpP h l).survived),w64 (h.stats.entries+(stpP h l).entries),w64 (h.stats.work+(stpP h l).work)⟩,h.dead⟩
theorem Qgl(h:Hp)(l:List Inc):(ZW h l).space=QbP (XL h l) l:=by show (⟨h.space.sh,(QbP (XL h l) l).ws,(QbP (XL h l) l).fs⟩:Sp)=_;have:=clrA_sh l (XL h l);rw[<- show (QbP (XL h l) l).sh=h.space.sh from this]
theorem copy20_c{r:Rts}(a:r.used.length<=1000000)(b:r.refs.length<=1000000):Xe r=some r:=by refine Gd.eq ?_;unfold Xe;exact .pos (len_in a Oo) (.pos (len_in b Oo) (.some rfl))
section
variable{h:Hp}{BL:List (List Itm)}
theorem QQ.small(H:QQ h BL):h.space.ws.length<=16384/\h.space.fs.length<=64/\h.roots.used.length=32/\h.roots.refs.length=32/\h.sets.length<=4096:=⟨XF H.sp.ok,H.sp.ok.shp.hi,H.rts.u,H.rts.v,H.sok.len⟩
theorem Qct(H:QQ h BL):QG h=some h:=by obtain ⟨a,b,c,d,e⟩:=H.small;have i:=H.cfg.len;have f:=H.sok.sz H.sin;refine Gd.eq ?_;unfold QG;refine .pos (len_in Oo Oo) ?_;refine .call (copy_c Oo Oo) (.call (Qgd H.bsz) (.call (rcopy_c _ Oo λx g=>by have:=f.2 x g;omega) (.call (copy20_c Oo Oo) (.some rfl))))
end
theorem map_ite'{α β:Type}{c:Prop}[Decidable c]{x y:Option α}(f:α->β):(if c then x else y).map f=if c then x.map f else y.map f:=by split <;> rfl
def LS.mp{σ τ β γ:Type}(I:τ->σ)(J:γ->β):LS τ γ->LS σ β
 | .go t=>.go (I t)
 | .out c=>.out (J c)
theorem QgD{σ τ β γ:Type}{f:σ->Option (LS σ β)}{g:τ->Option (LS τ γ)}(I:τ->σ)(J:γ->β)(h:∀ t,f (I t)=(g t).map (LS.mp I J)):∀ n t,Qb0 f n (I t)=(Qb0 g n t).map J
 | 0,t=>rfl
 | n+1,t=>by
  unfold Qb0;rw[h t];cases hg:g t with
  | none=>rfl
  | some y =>
   cases y with
   | go t'=>exact QgD I J h n t'
   | out c=>rfl
theorem loop_sim{σ τ β γ:Type}{f:σ->Option (LS σ β)}{g:τ->Option (LS τ γ)}(I:τ->σ)(J:γ->β)(h:∀ t,f (I t)=(g t).map (LS.mp I J))(t:τ):Qf f (I t)=(Qf g t).map J:=by
 cases hg:Qf g t with
 | some c =>obtain ⟨n,a⟩:=QaG.1 hg;exact QaG.2 ⟨n,by rw[QgD I J h,a];rfl⟩
 | none =>
  cases hf:Qf f (I t) with
  | none=>rfl
  | some b =>
   obtain ⟨n,a⟩:=QaG.1 hf;rw[QgD I J h]at a;cases hgn:Qb0 g n t with
   | none=>rw[hgn]at a;cases a
   | some c =>have:=QaG.2 ⟨n,hgn⟩;rw[hg]at this;cases this
theorem bind_sim{σ τ β γ δ:Type}{f:σ->Option (LS σ β)}{g:τ->Option (LS τ γ)}{b:β->Option δ}{a:γ->Option δ}(I:τ->σ)(J:γ->β){t:τ}{s:σ}(e:I t=s)(h:∀ t,f (I t)=(g t).map (LS.mp I J))(d:∀ c,b (J c)=a c):(Qf f s).bind b=(Qf g t).bind a:=by subst e;rw[loop_sim I J h,Yb];congr 1;funext c;exact d c
theorem note2_eq(s:Sp)(l:List Qe)(x w:Int):XA s l x w=(Q9 s l x w).map λr=>(r,s.ws,s.fs):=by unfold XA Q9;simp only[map_ite',UC,Function.comp_def,Wx]
theorem renew2_eq(s:Sp)(l:List Qe)(c:List Inc)(ps:List Int)(mv:List Mov):ZD s l c ps mv=(Zp s l c ps mv).map λr=>(r,s.ws,s.fs):=by
 obtain ⟨a,ws,fs⟩:=s;unfold ZD Zp;simp only[UC,Function.comp_def,note2_eq];congr 1;funext v1;congr 1;funext v2;refine bind_sim (λt:List Qe×Int=>(ws,fs,t.1,t.2)) (λr=>(ws,fs,r)) rfl (λt=>?_) (λc=>?_)
 ·simp only[map_ite',UC,Yb,Function.comp_def,if_true,Wx,LS.mp]
 ·refine bind_sim (λt:List Qe×Int=>(ws,fs,t.1,t.2)) (λr=>(ws,fs,r)) rfl (λt=>?_) (λc=>?_)
  ·simp only[map_ite',UC,Function.comp_def,Wx,LS.mp,Option.bind_assoc];by_cases h:t.2<(mv.length:Int)
   ·rw[if_pos h,if_pos h];congr 1;funext v3;congr 1;funext v4;refine bind_sim (λt:List Qe×Int=>(ws,fs,t.1,t.2)) (λr=>(ws,fs,r)) rfl (λt=>?_) (λc=>rfl);simp only[map_ite',UC,Yb,Function.comp_def,if_true,Wx,LS.mp]
   ·rw[if_neg h,if_neg h]
  ·rfl
theorem flat_remB(B:List (List Inc))(q:Int):(remB B q).flatten=B.flatten.filter λx=>!decide (x.seq=q):=by unfold remB;rw[Yx]
theorem BSz.rem{B:List (List Inc)}(h:BSz B)(q:Int):BSz (remB B q):=by unfold remB;refine ⟨by rw[Wb];exact h.1,λp c=>?_⟩;obtain ⟨b,a,rfl⟩:=Wm.1 c;have:=h.2 b a;have:=W9 (λx:Inc=>!decide (x.seq=q)) b;omega
theorem Qcf:∀ (l:List Inc) (B:List (List Inc)),remA B l=B.map λp=>p.filter λx=>!decide (x.seq∈l.map Inc.seq)
 | [],B=>by
  show B=_;have:(λp:List Inc=>p.filter λx=>!decide (x.seq∈([]:List Inc).map Inc.seq))=id:=by funext p;simp
  rw[this,Y6]
 | i :: l,B=>by show remA (remB B i.seq) l=_;rw[Qcf l];unfold remB;rw[Va];refine W7 λp _=>?_;show (p.filter λx=>!decide (x.seq=i.seq)).filter _=_;rw[List.filter_filter];refine U0 λx _=>?_;rw[Vj];by_cases e:x.seq=i.seq <;> simp[e]
theorem shp_clr{s:Sp}(a:Qdx s)(q:Int):Qdx ⟨s.sh,QcK (szS s) s.fs q s.ws,Qbg s.fs q⟩:=by refine ⟨a.sh,by show 2<=(Qbg s.fs q).length;unfold Qbg;rw[Wb];exact a.lo,by show (Qbg s.fs q).length<=64;unfold Qbg;rw[Wb];exact a.hi,?_⟩;show (QcK (szS s) s.fs q s.ws).length=(Qbg s.fs q).length*szS s;unfold Qbg QcK;rw[Wb,Uk];exact a.wl
theorem clear_loop{Q:List Int×List Fe×List (List Inc)->Prop}{l:List Inc}{s:Sp}{B:List (List Inc)}(H:Qdx s)(G:BSz B)(E:B.flatten.Pairwise λx y=>x.seq≠y.seq)(F:∀ i∈l,∃ x∈B.flatten,x.seq=i.seq)(w:(l.map Inc.seq).Nodup)(J:l.length<=1000000)
    (I:Q ((QbP s l).ws,(QbP s l).fs,remA B l)) :
    Gd Q (Qf (λ(s72:List Int×List Fe×List (List Inc)×Int) =>
       if s72.2.2.2<(l.length:Int) then
       ((at_ l s72.2.2.2).bind λv77 =>
       (Z2 s72.2.2.1 v77.seq).bind λv78 =>
       (Zq (Sp.mk s.sh s72.1 s72.2.1) v77.seq).bind λv79 =>
       if v79.2.1.length=s72.1.length then
       if v79.2.2.length=s72.2.1.length then
       some (LS.go ((v79.2.1,v79.2.2,v78.1,w64 (s72.2.2.2+1))))
       else none
       else none)
       else
       some (LS.out ((s72.1,s72.2.1,s72.2.2.1)))) (s.ws,s.fs,B,0)):=by
  refine Gd.for l.length (λ(t:Sp×List (List Inc)) i=>(t.1.ws,t.1.fs,t.2,i)) (λi t=>t.1=QbP s (l.take i)/\t.2=remA B (l.take i)/\t.1.sh=s.sh/\Qdx t.1/\BSz t.2/\t.2.flatten.Pairwise (λx y=>x.seq≠y.seq)/\∀ j∈l.drop i,∃ x∈t.2.flatten,x.seq=j.seq) (s,B) rfl (λ_ _=>rfl) Oo
    ⟨rfl,rfl,rfl,H,G,E,F⟩ (λi b t m=>?_) (λt m=>?_)
  · obtain ⟨d,f,o,p,q,r,u⟩:=m
    refine .atN b (.call (remove11_c q _ r (u _ (by rw[Vi b];exact WH ..))) ?_)
    obtain ⟨n,k⟩:=clear_c p l[i].seq
    have z:(⟨s.sh,t.1.ws,t.1.fs⟩:Sp)=t.1:=by rw[<- o]
    refine .call (a:=(n,QcK (szS t.1) t.1.fs l[i].seq t.1.ws,Qbg t.1.fs l[i].seq)) (by
      show Zq ⟨s.sh,t.1.ws,t.1.fs⟩ _=_
      rw[z];exact k) ?_
    have A:=shp_clr p l[i].seq
    refine .pos (by show (QcK (szS t.1) t.1.fs l[i].seq t.1.ws).length=t.1.ws.length;unfold QcK;rw[Uk]) (.pos (by show (Qbg t.1.fs l[i].seq).length=t.1.fs.length;unfold Qbg;rw[Wb]) (.some (.inl ⟨(⟨t.1.sh,QcK (szS t.1) t.1.fs l[i].seq t.1.ws,Qbg t.1.fs l[i].seq⟩,remB t.2 l[i].seq),rfl,?_,?_,o,A,q.rem _,?_,λj v=>?_⟩)))
    · unfold QbP
      rw[QeX b,show (l.take i).foldl _ s=QbP s (l.take i) from rfl,<- d]
    · unfold remA
      rw[QeX b,show (l.take i).foldl _ B=remA B (l.take i) from rfl,<- f]
    · dsimp only
      rw[flat_remB]
      exact r.filter _
    · have g:j∈l.drop i:=by rw[Vi b];exact Wp _ v
      obtain ⟨x,D,e⟩:=u j g
      refine ⟨x,?_,e⟩
      dsimp only
      rw[flat_remB,WX]
      refine ⟨D,?_⟩
      simp only[VF,decide_eq_false_iff_not]
      intro c
      have h:j.seq∈(l.drop (i+1)).map Inc.seq:=Vc v
      have C:l.map Inc.seq=(l.take i).map Inc.seq++(l[i].seq :: (l.drop (i+1)).map Inc.seq):=by rw[<- Vj,<- Vi b,<- WP,Vn]
      rw[C]at w
      have:=(UB.1 (Uq.1 w).2.1).1
      apply this
      rw[<- c,e]
      exact h
  · obtain ⟨d,f,_⟩:=m
    rw[WQ]at d f
    dsimp only
    rw[d,f]
    exact I
def stmp(i:Inc):Int:=i.belt*4294967296+i.seq
section
variable{h:Hp}{BL:List (List Itm)}{l:List Inc}{C K:List Itm}{T0:Itm}
theorem QQ.order(H:QQ h BL):BL.flatten.Pairwise λx y=>stmp x.i<stmp y.i:=by
 have d:∀ x∈BL.flatten,0<=x.i.seq/\x.i.seq<=4294967295:=λx a=>(H.sp.each x a).inc.sq;have e:∀ (B:List (List Itm)) (n:Nat),(∀ b (c:b<B.length),∀ x∈B[b],x.i.belt=((n+b:Nat):Int))->(∀ q∈B,q.Pairwise λx y=>x.i.seq<y.i.seq)->(∀ x∈B.flatten,0<=x.i.seq/\x.i.seq<=4294967295)->B.flatten.Pairwise λx y=>stmp x.i<stmp y.i:=by
  intro B;induction B with
  | nil=>intro _ _ _ _;exact .nil
  | cons q B ih =>
   intro n l t m;have f:∀ x∈q,x.i.belt=((n:Nat):Int):=λx a=>l 0 Os x a;rw[Vr,Ve];refine ⟨?_,ih (n+1) (λb c x a=>?_) (λp g=>t p (Wp _ g)) (λx a=>m x (by rw[Vr];exact Wj _ a)),λx a y u=>?_⟩
   ·refine (WA.2 λi j v w o=>?_);have:=WA.1 (t q (WH ..)) i j v w o;have r:=f _ (Wc v);have s:=f _ (Wc w);unfold stmp;omega
   ·have:=l (b+1) (by simp;omega) x (by simpa using a);rw[this];push_cast;omega
   ·obtain ⟨p,g,k⟩:=Vu.1 u;obtain ⟨b,c,rfl⟩:=WL.1 g;have r:=f x a;have s:=l (b+1) (by simp;omega) y (by simpa using k);have z:=m x (by rw[Vr];exact Wg _ a);have A:=m y (by rw[Vr];exact Wj _ u);unfold stmp;rw[r,s];push_cast;omega
 exact e BL 0 (λb c x a=>by rw[H.blt b c x a];simp) H.asc d
theorem step_first(H:QQ h BL)(z:TgtP h.belts l)(S:StepC h BL l C K T0){c x:Itm}(s:c∈C)(t:x∈BL.flatten)(A:x∉C):stmp c.i<stmp x.i:=by
 obtain ⟨_,_,a,_,g,j⟩:=z;have m:=H.flat;rw[m]at g j a;rw[Wb]at g j a;rw[Wb]at a;have n:(BL.flatten.map Itm.i).take l.length=(BL.flatten.take l.length).map Itm.i:=by rw[UK]
 rw[n]at g j;have o:c.i.seq∈l.map Inc.seq:=by rw[<- S.ci,Va];exact Vc (f:=Inc.seq∘Itm.i) s
 obtain ⟨i,u,v⟩:=g _ o;obtain ⟨w,d,rfl⟩:=Wm.1 u;have p:w=c:=H.uniq (VJ d) (S.cin c s) v;subst p;have q:x∈BL.flatten.drop l.length:=by
  have b:=t;rw[<- Vn l.length BL.flatten]at b;rcases Wk.1 b with k | k
  ·exfalso;have:=j x.i (Vc k);rw[<- S.ci,Va]at this;obtain ⟨y,r,e⟩:=Wm.1 this;exact A (H.uniq (S.cin y r) t e▸r)
  ·exact k
 have:=H.order;rw[<- Vn l.length BL.flatten]at this;exact (Ve.1 this).2.2 _ d _ q
theorem ZI{s:Sp}(a:Zn s){x:Itm}(b:Qa6 s x){p r d k:Nat}(e:(p,r,d)∈obs 0 x.os)(f:k<=r+d){q:Int}(h:0<=q)(g:q.toNat=adr (szS s) x.fr (p+k)):Jn s q∈x.fr/\q<s.ws.length:=by have c:=obj_frame a b e f;have i:=Itm.posOk a b e;have j:=QaJ a.shp b.inc.ch.lt (p:=p+k) Oo;rw[<- g,show ((q.toNat:Nat):Int)=q by omega]at c;exact ⟨c,Oo⟩
theorem QdM(H:QQ h BL)(S:StepB h BL l C K T0){k:Nat}:((k:Nat):Int)∈(cfr h.space.fs l).map (λ(k:Nat)=>(k:Int))<->∃ c∈C,k∈c.fr:=by rw[mem_nat,mem_cfr,<- S.ci];exact Qed λx a=>(H.sp.each x (S.cin x a)).inc.toIncC
theorem XG(H:QQ h BL)(S:StepB h BL l C K T0){q:Int}(a:q∈QaE h.space h.sets l):0<=q/\Qeq h.space l (wAt h.space q)/\∃ x∈BL.flatten,x∉C/\∃ p r d,(p,r,d)∈obs 0 x.os/\∃ k,1<=k/\k<=r/\q.toNat=adr (szS h.space) x.fr (p+k):=by unfold QaE at a;rw[WX,QI]at a;obtain ⟨j,m,n⟩:=a;obtain ⟨y,c,w,o,f⟩:=QgB.1 j;have b:=(H.sin y c q f).1;obtain ⟨⟨x,g,p,r,d,i,k,s,t,e⟩,u,_⟩:=H.snd y.frm y.to q ⟨y,c,rfl,rfl,f⟩;refine ⟨b,n,x,g,λv=>o ?_,p,r,d,i,k,s,t,e⟩;have:=(ZI H.sp.ok (H.sp.each x g) i Oo b e).1;rw[u];exact (QdM H S).2 ⟨x,v,this⟩
theorem slot_in(H:QQ h BL)(R:TgtP h.belts l)(S:StepC h BL l C K T0){x:Itm}(o:x∈BL.flatten)(I:x∉C){p r d k:Nat}(G:(p,r,d)∈obs 0 x.os)(T:1<=k)(Q:k<=r)(u:Qeq h.space l (wAt h.space ((adr (szS h.space) x.fr (p+k):Nat):Int))):((adr (szS h.space) x.fr (p+k):Nat):Int)∈QaE h.space h.sets l:=by
 generalize hq:((adr (szS h.space) x.fr (p+k):Nat):Int)=q at u ⊢;have s:0<=q:=by omega
 have w:q.toNat=adr (szS h.space) x.fr (p+k):=by omega
 obtain ⟨v,F⟩:=ZI H.sp.ok (H.sp.each x o) G Oo s w;have j:QaX (szS h.space) BL.flatten (adr (szS h.space) x.fr (p+k)):=⟨x,o,p,r,d,G,k,T,Q,rfl⟩;have J:U64 (wAt h.space q):=Qfo H.sp.w q;unfold U64 at J;have t:=u.2;rw[<- S.ci]at t;obtain ⟨c,B,f⟩:=(Qed λx o=>(H.sp.each x (S.cin x o)).inc.toIncC).1 t;have b:=(H.sp.each c (S.cin c B)).inc.toIncC;have a:=(H.sp.each x o).inc.toIncC;have z:=b.ch.lt _ f;have A:=a.ch.lt _ v;have g:=step_first H R S B o I;have m:Qby h.space q (wAt h.space q):=by
  refine ⟨⟨u.1.1,u.1.2,s,F⟩,A,z,?_,?_,?_⟩
  ·rw[(a.ow _ A).2 v];have:=a.sq;omega
  ·rw[(b.ow _ z).2 f];have:=b.sq;omega
  ·rw[a.st _ A v,b.st _ z f];unfold stmp at g;exact g
 have i:=H.cmp _ j (by rw[hq];exact m);rw[hq]at i;obtain ⟨y,L,M,N,O⟩:=i;unfold QaE;rw[WX,QI];refine ⟨QgB.2 ⟨y,L,?_,?_,O⟩,F,u⟩
 ·rw[N];exact (QdM H S.toStepB).2 ⟨c,B,f⟩
 ·rw[M];intro P;obtain ⟨D,n,E⟩:=(QdM H S.toStepB).1 P;refine a.disj (H.sp.each D (S.cin D n)).inc.toIncC (λe=>I ?_) _ v E;exact H.uniq o (S.cin D n) e▸n
theorem entL_asc(s:Sp)(a:List Qe)(l:List Inc):(QaE s a l).Pairwise (· < ·):=(Asc.pw.1 (QgH _ _)).filter _
theorem ent_len(H:QQ h BL):(QaE h.space h.sets l).length<=16384:=by have a:=asc_le (QgH h.sets ((cfr h.space.fs l).map λ(k:Nat)=>(k:Int))) (intoL_rng H.sin);have b:=W9 (λ(x:Int)=>bP (x<(h.space.ws.length:Int)/\Qeq h.space l (wAt h.space x))) (intoL h.sets ((cfr h.space.fs l).map λ(k:Nat)=>(k:Int)));unfold QaE;omega
theorem hdl_len(H:QQ h BL):(JB h.space h.roots l).length<=32:=by have a:=W9 (λi=>bP (Qeq h.space l (Qz h.roots i))) (ZY h.roots);have b:=liveN_len h.roots;have c:=H.rts.u;unfold JB;omega
theorem QeU{i:Nat}(a:i∈JB h.space h.roots l):i∈ZY h.roots/\Qeq h.space l (Qz h.roots i):=by unfold JB at a;rw[WX,QI]at a;exact a
theorem refAt_u{r:Rts}(a:Qcz r)(i:Nat):U64 (Qz r i):=by
 unfold Qz;cases hg:r.refs[i]? with
 | none=>show U64 0;unfold U64;omega
 | some v=>exact a.w v (Wq hg)
theorem stpW_ok(H:QQ h BL)(S:StepB h BL l C K T0):(∀ w∈stpW h l,U64 w/\RefOk h.space C w)/\(stpW h l).length<=100000:=by
 have m:=ent_len H (l:=l);have n:=hdl_len H (l:=l);refine ⟨λw hw=>?_,by unfold stpW;rw[We,Wb,Wb];omega⟩;unfold stpW at hw;rcases Wk.1 hw with hw | hw
 ·obtain ⟨i,a,rfl⟩:=Wm.1 hw;exact ⟨refAt_u H.rts i,ref_ok H S (.inr (H.roots i (QeU a).1))⟩
 ·obtain ⟨q,b,rfl⟩:=Wm.1 hw;obtain ⟨o,_,x,c,_,p,r,d,f,k,g,j,e⟩:=XG H S b;refine ⟨Qfo H.sp.w q,ref_ok H S ?_⟩;have:=H.refs _ ⟨x,c,p,r,d,f,k,g,j,rfl⟩;rwa [<- e,show ((q.toNat:Nat):Int)=q by omega]at this
end
section
variable{h:Hp}{BL:List (List Itm)}{l:List Inc}{C K:List Itm}{T0 T:Itm}{M:List (Nat×Nat×Nat)}
abbrev StpR(h:Hp)(l:List Inc)(C K:List Itm)(T0 T:Itm)(M:List (Nat×Nat×Nat)):Prop:=EvR h.space C K T0 (stpW h l) (Jb h l).1 (Jb h l).2 T M
theorem step_run(H:QQ h BL)(d:TgtP h.belts l)(S:StepC h BL l C K T0)(c:EvC h.space C K T0) :
  ZE h.space l (tgtI h l) (stpW h l)=some ((Jb h l).1.to,(Jb h l).1.mv,(Jb h l).2,0,(Jb h l).1.s.ws,(Jb h l).1.s.fs)/\∃ T M,StpR h l C K T0 T M:=by obtain ⟨a,b⟩:=stpW_ok H S.toStepB;have:=run_c c a b;rw[S.ci,S.ti]at this;exact this
theorem stp_lens(R:StpR h l C K T0 T M):(Jb h l).2.length=(JB h.space h.roots l).length+(QaE h.space h.sets l).length:=by rw[R.len];unfold stpW;rw[We,Wb,Wb]
theorem stays(f:EvC h.space C K T0)(R:StpR h l C K T0 T M){x:Itm}(d:x∈K\/x=T0){k:Nat}(c:k∈x.fr):∃ hl:k<(Jb h l).1.s.fs.length,¬ (Jb h l).1.s.fs[k].ow = -1:=by
 rcases d with d | rfl
 ·have a:=R.inv.oth x (Wj _ d);exact ⟨a.ch.lt k c,a.own k c (a.ch.lt k c)⟩
 ·obtain ⟨m,e,_⟩:=R.inv.fr;have a:=R.inv.inc.toIncC;have b:k∈T.fr:=by rw[e];exact Wg _ c
  exact ⟨a.ch.lt k b,a.own k b (a.ch.lt k b)⟩
theorem Qgy(S:StepB h BL l C K T0){x:Itm}(a:x∈BL.flatten)(b:x∉C):x∈K\/x=T0:=by
 by_cases e:x=T0
 ·exact .inr e
 ·exact .inl ((S.kin x).2 ⟨a,b,e⟩)
theorem stpS_ok(H:QQ h BL)(S:StepC h BL l C K T0)(B:EvC h.space C K T0)(R:StpR h l C K T0 T M):Zn (XL h l)/\SpW (XL h l):=by
 have f:(Jb h l).1.s.sh=h.space.sh:=R.inv.sh;have b:Zn ⟨(Jb h l).1.s.sh,(XL h l).ws,(Jb h l).1.s.fs⟩:=by
  refine sp_ws R.inv.ok (QaC _ _ _) λk F t a u w e=>?_;have g:∀ q∈QaE h.space h.sets l,q.toNat≠a:=λq y z=>by obtain ⟨i,_,x,c,m,p,r,d,n,j,D,E,o⟩:=XG H S.toStepB y;have:=(ZI H.sp.ok (H.sp.each x c) n Oo i o).1;unfold Jn at this;rw[z,show szS h.space=szS (Jb h l).1.s from R.inv.z.symm,e]at this;obtain ⟨_,s⟩:=stays B R (Qgy S.toStepB c m) this;exact s t
  have:=QcR (QaE h.space h.sets l) ((Jb h l).2.drop (JB h.space h.roots l).length) (Jb h l).1.s.ws a g;exact VC ((Wa w).symm.trans (this.trans (Wa u)))
 refine ⟨by rw[f]at b;exact b,⟨λx c=>?_,R.inv.w.2⟩⟩;exact QfT _ _ _ R.inv.w.1 (λv A=>R.u v (VV A)) x c
def sumI(s:Sp)(l:List Inc):Int:=l.foldl (λ(n:Int) x=>n+clN s x.words) 0
theorem sumI_eq(s:Sp)(C:List Itm):sumI s (C.map Itm.i)=sumF s C:=by
 have a:∀ (C:List Itm) (n:Int),(C.map Itm.i).foldl (λ(n:Int) x=>n+clN s x.words) n=n+sumF s C:=by
  intro C;induction C with
  | nil=>intro n;simp[sumF]
  | cons x C ih=>intro n;rw[Vj,V2,ih];unfold sumF;rw[Vj,UW];omega
 have:=a C 0;unfold sumI;rw[this];omega
abbrev hp0:Hp:=Hp.mk (Cfg.mk ⟨#[]⟩ ([]:List Rul) 0) (Sp.mk 0 ([]:List Int) ([]:List Fe)) ([]:List (List Inc)) 0 ([]:List Qe) (Rts.mk ([]:List Bool) ([]:List Int)) 0 (Sts.mk 0 0 0 0 0 0 0 0 0) false
set_option maxHeartbeats 2000000 in
theorem do_c(H:QQ h BL)(l:List Inc)(hl:l.length<=1000000)(A:h.seq<=4294967295) :
  Qaw h l=some (open Classical in if TgtP h.belts l then(if sumI h.space l<=(Qk h.space.fs).length then(ZW h l,stpP h l,0) else(hp0,⟨0,0,0,0⟩,4)) else(hp0,⟨0,0,0,0⟩,1)):=by
 obtain ⟨z1,z2,z3,z4,z5⟩:=H.small;have v:=H.sp.ok;refine Gd.eq ?_;unfold Qaw;refine .call (target_c H l hl) ?_;by_cases B:TgtP h.belts l
 ·rw[if_pos B,if_pos B];obtain ⟨C,K,T0,S⟩:=step_parts H B;refine .pos rfl ?_;refine Gd.bind (P:=λb=>b=(sumI h.space l,sumW l)) ?_ λb f=>?_
  ·refine Gd.fold l (λ(t:Int×Int) i=>(t.1,t.2,i)) (λt x=>(t.1+clN h.space x.words,t.2+x.words)) (0,0) (λi t=>(0<=t.1/\t.1<=1099511627776*i)/\0<=t.2/\t.2<=16384*i) rfl (λ_ _=>rfl) Oo Os (λi g t c=>?_) (λc=>?_)
   ·obtain ⟨x,Q,e⟩:=B.mem H (Wc g);have G:=(H.sp.each x Q).inc.wd;rw[e]at G;have hc:=QdR v.shp.sh l[i].words;refine ⟨by dsimp only;omega,?_⟩;refine .atN g (.call (Qb2 v.shp.sh (by unfold I64;omega)) (.some ?_));dsimp only;rw[Qb (n:=t.1+clN h.space l[i].words) Oo,Qb (n:=t.2+l[i].words) Oo]
   ·dsimp only;unfold sumI sumW;have:∀ (l:List Inc) (a b:Int),l.foldl (λ(t:Int×Int) x=>(t.1+clN h.space x.words,t.2+x.words)) (a,b)=(l.foldl (λ(n:Int) x=>n+clN h.space x.words) a,l.foldl (λ(n:Int) x=>n+x.words) b):=by
     intro l;induction l with
     | nil=>intro a b;rfl
     | cons x l ih=>intro a b;rw[V2,V2,V2,ih]
    rw[this]
  subst f;refine .call (free_ok h.space Oo) ?_;rw[Wb];refine .ite (λX=>.some (by rw[if_neg (by dsimp only at X;omega)])) λX=>?_;have X:sumI h.space l<=(Qk h.space.fs).length:=by dsimp only at X;omega
  rw[if_pos X];have I:sumF h.space C<=(Qk h.space.fs).length:=by rw[<- sumI_eq,S.ci];exact X
  have hC:=step_ctx H B S A I hl;obtain ⟨ah,T,M,R⟩:=step_run H B S hC;obtain ⟨ai,w2⟩:=stpS_ok H S hC R;have aj:=stp_lens R;have aw:=ent_len H (l:=l);have ax:=hdl_len H (l:=l);refine .call (Qct H) (.call (QgK v H.rts l Oo) (.call (QgR v H.sp.w H.sok H.sin l Oo) ?_));have ay:=entL_asc h.space h.sets l;have w:∀ q∈QaE h.space h.sets l,0<=q/\q<h.space.ws.length:=λq A=>by obtain ⟨q0,_,x,Q,hn,p,r,d,U,j,j1,j2,e2⟩:=XG H S.toStepB A;exact ⟨q0,(ZI v (H.sp.each x Q) U Oo q0 e2).2⟩
  refine Gd.bind (P:=λb=>b=(JB h.space h.roots l).map (Qz h.roots)) ?_ λb f=>?_
  ·refine Gd.for ((JB h.space h.roots l).map λi=>((i+1:Nat):Int)).length (λ(t:List Int) i=>(t,i)) (λi t=>t=((JB h.space h.roots l).take i).map (Qz h.roots)) [] rfl (λ_ _=>rfl) (by rw[Wb];omega) Os (λi g t c=>?_) (λt c=>?_)
   ·rw[Wb]at g;have J:=(QeU (Wc g)).1;have D:(JB h.space h.roots l)[i]<h.roots.refs.length:=by have:=(Wo.1 (Xj.1 J)).1;omega
    have E:t.length<=1000000:=by rw[c,Wb,Wf];omega
    refine .atN (by rw[Wb];exact g) ?_;rw[Vt];have Z:w64 ((((JB h.space h.roots l)[i]+1:Nat):Int)-1)=(((JB h.space h.roots l)[i]:Nat):Int):=by rw[Qb Oo];omega
    rw[Z];refine .atN D (.pos (XP (l:=t) E Oo) (.some (.inl ⟨_,rfl,?_⟩)));rw[QC g,WP,c];unfold Qz;rw[Uz,Wa D];rfl
   ·rw[Wb,WQ]at c;rw[c]
  subst f;refine Gd.bind (P:=λb=>b=stpW h l) ?_ λb f=>?_
  ·refine Gd.for (QaE h.space h.sets l).length (λ(t:List Int) i=>(t,i)) (λi t=>t=(JB h.space h.roots l).map (Qz h.roots)++((QaE h.space h.sets l).take i).map (wAt h.space)) _ rfl (λ_ _=>rfl) Oo Os (λi g t c=>?_) (λt c=>?_)
   ·have Y:=w _ (Wc g);have E:t.length<=1000000:=by rw[c,We,Wb,Wb,Wf];omega
    refine .atN (l:=QaE h.space h.sets l) g (.at (i:=(QaE h.space h.sets l)[i]) Y.1 Oo (.pos (XP (l:=t) E Oo) (.some (.inl ⟨_,rfl,?_⟩))));rw[QC g,WP,<- WI,<- c,Uz,QcC Y.1 Oo]
   ·rw[WQ]at c;exact c
  subst f;refine .call ah ?_;have L:(Jb h l).1.s.ws.length=h.space.ws.length:=R.inv.wl;have ak:(Jb h l).1.s.fs.length=h.space.fs.length:=R.inv.fl;refine .pos L (.pos ak (.pos rfl ?_));refine Gd.bind (P:=λb=>b=stpR h l) ?_ λb f=>?_
  ·refine Gd.for ((JB h.space h.roots l).map λi=>((i+1:Nat):Int)).length (λ(t:List Int) i=>(t,i)) (λi t=>t=wrtL h.roots.refs (((JB h.space h.roots l).map λ(i:Nat)=>(i:Int)).take i) ((Jb h l).2.take i)) h.roots.refs rfl (λ_ _=>rfl) (by rw[Wb];omega) (by simp[wrtL]) (λi g t c=>?_) (λt c=>?_)
   ·rw[Wb]at g;have J:=(QeU (Wc g)).1;have aA:(JB h.space h.roots l)[i]<32:=by have:=(Wo.1 (Xj.1 J)).1;omega
    have D:(JB h.space h.roots l)[i]<t.length:=by rw[c,QaC];omega
    refine .atN (by rw[Wb];exact g) ?_;rw[Vt];have Z:w64 ((((JB h.space h.roots l)[i]+1:Nat):Int)-1)=(((JB h.space h.roots l)[i]:Nat):Int):=by rw[Qb Oo];omega
    rw[Z];refine .atN (l:=(Jb h l).2) Oo (.atN (l:=t) D (.some (.inl ⟨_,rfl,?_⟩)));rw[QC (l:=(JB h.space h.roots l).map λ(i:Nat)=>(i:Int)) (by rw[Wb];exact g),QC (l:=(Jb h l).2) Oo,Qd6 _ _ _ _ _ (by rw[Wf,Wf,Wb];omega),<- c,Vt]
   ·rw[Wb]at c;unfold stpR;rw[c,WD (by rw[Wb];omega)]
  subst f;refine Gd.bind (P:=λb=>b=(XL h l).ws) ?_ λb f=>?_
  ·refine Gd.for (QaE h.space h.sets l).length (λ(t:List Int) i=>(t,i)) (λi t=>t=wrtL (Jb h l).1.s.ws ((QaE h.space h.sets l).take i) (((Jb h l).2.drop (JB h.space h.roots l).length).take i)) (Jb h l).1.s.ws rfl (λ_ _=>rfl) Oo (by simp[wrtL]) (λi g t c=>?_) (λt c=>?_)
   ·have Y:=w _ (Wc g);have E:t.length=h.space.ws.length:=by rw[c,QaC,L]
    refine .atN g ?_;have Z:w64 ((((JB h.space h.roots l).map λi=>((i+1:Nat):Int)).length:Int)+(i:Int))=(((JB h.space h.roots l).length+i:Nat):Int):=by rw[Wb,Qb Oo];push_cast;rfl
    dsimp only;rw[Z];refine .atN (l:=(Jb h l).2) Oo (.at Y.1 Oo (.some (.inl ⟨_,rfl,?_⟩)));rw[QC g,QC (l:=(Jb h l).2.drop (JB h.space h.roots l).length) (by rw[Wv];omega),Qd6 _ _ _ _ _ (by rw[Wf,Wf,Wv];omega),<- c,UG]
   ·rw[WQ,WD (by rw[Wv];omega)]at c;exact c
  subst f;have al:∀ m∈(Jb h l).1.mv,I64 m.to:=λm hm=>by rw[R.inv.mv]at hm;obtain ⟨o,Y,rfl⟩:=Wm.1 hm;have aB:=Jp M _ o Y;have:=Qej R.inv (q:=o.2.1) (by have:=Qbf R.inv;omega);unfold I64;dsimp only;omega
  have az:=(ev_len hC.toEvB R.inv);have aa:=renew24_c ai w2 H.sok H.sin l Oo (ps:=QaE h.space h.sets l) (λq A=>by
   have:=w q A
   have e:(XL h l).ws.length=h.space.ws.length:=(QaC _ _ _).trans L
   rw[e];exact this) Oo al Oo
  refine .call (a:=(renK (XL h l) h.sets l (QaE h.space h.sets l) (Jb h l).1.mv,(XL h l).ws,(XL h l).fs)) (by
   show ZD (XL h l) h.sets l (QaE h.space h.sets l) (Jb h l).1.mv=_
   rw[renew2_eq,aa];rfl) ?_
  refine .pos rfl (.pos rfl ?_);refine Gd.bind (P:=λb=>b=((QbP (XL h l) l).ws,(QbP (XL h l) l).fs,remA h.belts l)) ?_ λb f=>?_
  ·exact clear_loop ai.shp H.bsz H.dist (λi g=>by
    obtain ⟨x,Q,e⟩:=B.mem H g
    exact ⟨i,by rw[H.flat,<- e];exact Vc Q,rfl⟩) B.nodup hl rfl
  subst f;have am:(Jb h l).1.to=T.i:=R.inv.to;have ab:BSz (remA h.belts l):=by rw[Qcf];have f:=H.bsz;refine ⟨by rw[Wb];exact f.1,λp U=>?_⟩;obtain ⟨b,ap,rfl⟩:=Wm.1 U;have:=f.2 b ap;have:=W9 (λx:Inc=>!decide (x.seq∈l.map Inc.seq)) b;omega
  have ac:(remA h.belts l).length=h.config.rules.length:=by rw[Qcf,Wb,H.bl,Wb,H.bn]
  have N:=S.tb;rw[S.ti]at N;have ad:=R.inv.sq;have s:(Jb h l).1.to.belt=(tgtI h l).belt/\(Jb h l).1.to.seq=(tgtI h l).seq:=by rw[am,ad.1,ad.2.1,S.ti];exact ⟨rfl,rfl⟩
  refine Gd.bind (P:=λb=>b=stpB h l) ?_ λb f=>?_
  ·unfold stpB;refine .ite (λG=>?_) λG=>?_
   ·rw[if_pos G];have ae:T0∈BL.flatten:=S.tw.1 (by rw[S.ti];exact G);have af:T0∉C:=by
     rcases S.tin with k | ⟨b,e⟩
     ·exact k.2
     ·intro k;have:=H.sq T0 (S.cin T0 k);rw[e]at this;dsimp only at this;omega
    have u:(Jb h l).1.to.belt.toNat<(remA h.belts l).length:=by rw[s.1,ac];omega
    refine .call (Qgr ab (by rw[s.1];exact N.1) u ?_ ?_) (.some rfl)
    ·have hd:=H.dist;have an:∀ q∈remA h.belts l,q.Pairwise λx y=>x.seq≠y.seq:=λq A=>by rw[Qcf]at A;obtain ⟨p,U,rfl⟩:=Wm.1 A;exact ((List.pairwise_flatten.1 hd).1 p U).filter _
     exact an _ (Wc u)
    ·obtain ⟨b,f,aq,V⟩:=H.belt_in ae;have ao:(Jb h l).1.to.belt.toNat=b:=by rw[s.1,<- S.ti,V];rfl
     refine ⟨T0.i,?_,by rw[s.2,S.ti]⟩;have O:b<(remA h.belts l).length:=by rw[<- ao];exact u
     have e3:(remA h.belts l)[(Jb h l).1.to.belt.toNat]'u=(remA h.belts l)[b]'O:=by congr
     rw[e3];have e4:(remA h.belts l)[b]'O=(BL[b].map Itm.i).filter λx=>!decide (x.seq∈l.map Inc.seq):=by
      have:(remA h.belts l)[b]?=some ((BL[b].map Itm.i).filter λx=>!decide (x.seq∈l.map Inc.seq)):=by rw[Qcf,Wh,H.bl_at f];rfl
      rw[Wa O]at this;injection this
     rw[e4,WX];refine ⟨Vc aq,?_⟩;simp only[VF,decide_eq_false_iff_not];intro hm;rw[<- S.ci,Va]at hm;obtain ⟨y,z,e⟩:=Wm.1 hm;exact af (H.uniq (S.cin y z) ae e▸z)
   ·rw[if_neg G];refine .ite (λW=>?_) λW=>.some (by rw[if_neg W]);rw[if_pos W];refine .call (add11_c ab (by rw[s.1,ac];exact N) λy z=>?_) (.some rfl);have ag:y∈(remA h.belts l).flatten:=by
     unfold yngR at z;split at z
     ·cases z
     ·cases f:(remA h.belts l)[(Jb h l).1.to.belt.toNat]? with
      | none=>rw[f]at z;cases z
      | some q =>rw[f,WB]at z;exact Vu.2 ⟨q,Wq f,Ua z⟩
    have F:y∈h.belts.flatten:=by rw[Qcf]at ag;obtain ⟨q,A,av⟩:=Vu.1 ag;obtain ⟨p,U,rfl⟩:=Wm.1 A;exact Vu.2 ⟨p,U,(WX.1 av).1⟩
    rw[H.flat]at F;obtain ⟨x,Q,rfl⟩:=Wm.1 F;have:=H.sq x Q;rw[s.2];rcases S.tin with k | ⟨b,e⟩
    ·exfalso;have:=S.tw.2 k.1;rw[S.ti]at this;exact G this
    ·rw[<- S.ti,e];exact this
  subst f;refine .call (live20_c h.roots Oo) (.some ?_);rw[Wb];rfl
 ·rw[if_neg B,if_neg B];exact .neg Od (.some rfl)
end
theorem Qbh:∀ (l:List Inc) (s:Sp),(∀ i∈l,0<=i.seq)->(∀ k:Nat,(QbP s l).fs[k]?=(s.fs[k]?).map λf=>if f.ow∈l.map Inc.seq then feF else f)/\(∀ a:Nat,(QbP s l).ws[a]?=(s.ws[a]?).map λw=>if isC s.fs l (a/szS s)=true then 0 else w)
 | [],s,_=>by
  refine ⟨λk=>?_,λa=>?_⟩
  ·show s.fs[k]?=_;cases s.fs[k]? <;> simp
  ·show s.ws[a]?=_;have:isC s.fs [] (a/szS s)=false:=by unfold isC;cases s.fs[a/szS s]? <;> simp
   rw[this];cases s.ws[a]? <;> simp
 | x :: l,s,h=>by
  have n:=h x (WH ..);obtain ⟨g,j⟩:=Qbh l ⟨s.sh,QcK (szS s) s.fs x.seq s.ws,Qbg s.fs x.seq⟩ λi c=>h i (Wp _ c);have d:¬ (-1:Int)∈l.map Inc.seq:=λm=>by obtain ⟨i,c,e⟩:=Wm.1 m;have:=h i (Wp _ c);omega
  have b:∀ k:Nat,(Qbg s.fs x.seq)[k]?=(s.fs[k]?).map λf=>if f.ow=x.seq then feF else f:=λk=>by unfold Qbg;rw[Wh]
  refine ⟨λk=>?_,λa=>?_⟩
  ·show (QbP ⟨s.sh,QcK (szS s) s.fs x.seq s.ws,Qbg s.fs x.seq⟩ l).fs[k]?=_;rw[g k];dsimp only;rw[b k];cases s.fs[k]? with
   | none=>rfl
   | some f =>
    simp only[Wx,Vj,Wu];by_cases e:f.ow=x.seq
    ·simp[e,d]
    ·simp[e]
  ·show (QbP ⟨s.sh,QcK (szS s) s.fs x.seq s.ws,Qbg s.fs x.seq⟩ l).ws[a]?=_;rw[j a];dsimp only;rw[show szS ⟨s.sh,QcK (szS s) s.fs x.seq s.ws,Qbg s.fs x.seq⟩=szS s from rfl];unfold QcK;rw[List.getElem?_mapIdx];cases s.ws[a]? with
   | none=>rfl
   | some w =>
    simp only[Wx];congr 1;unfold isC isOw;rw[b];cases s.fs[a/szS s]? with
    | none=>rfl
    | some f =>
     simp only[Wx,Vj,Wu];by_cases e:f.ow=x.seq
     ·simp[e,d]
     ·simp[e]
theorem Qc3(l:List Inc)(s:Sp)(h:∀ i∈l,0<=i.seq):(QbP s l).fs.length=s.fs.length/\(QbP s l).ws.length=s.ws.length:=by
 obtain ⟨a,b⟩:=Qbh l s h;constructor
 ·apply Nat.le_antisymm
  ·rw[<- Uf,a,Wi (Wl _)];rfl
  ·rw[<- Uf];have:=a (QbP s l).fs.length;rw[Wi (Wl _)]at this;cases hk:s.fs[(QbP s l).fs.length]? with
   | none=>rfl
   | some f=>rw[hk]at this;cases this
 ·apply Nat.le_antisymm
  ·rw[<- Uf,b,Wi (Wl _)];rfl
  ·rw[<- Uf];have:=b (QbP s l).ws.length;rw[Wi (Wl _)]at this;cases hk:s.ws[(QbP s l).ws.length]? with
   | none=>rfl
   | some f=>rw[hk]at this;cases this
section
variable{s:Sp}{l:List Inc}
theorem Qcu(h:∀ i∈l,0<=i.seq){k:Nat}(a:k<s.fs.length)(b:¬ isC s.fs l k=true):∃ hk':k<(QbP s l).fs.length,(QbP s l).fs[k]=s.fs[k]:=by
 obtain ⟨c,_⟩:=Qbh l s h;have hk':k<(QbP s l).fs.length:=by rw[(Qc3 l s h).1];exact a
 refine ⟨hk',?_⟩;have:=c k;rw[Wa hk',Wa a,Wx]at this;rw[Qee a,decide_eq_true_iff]at b;rw[if_neg b]at this;injection this
theorem Qa3(h:∀ i∈l,0<=i.seq){k:Nat}(d:isC s.fs l k=true):∃ hk':k<(QbP s l).fs.length,(QbP s l).fs[k]=feF:=by
 obtain ⟨b,_⟩:=Qbh l s h;obtain ⟨a,c⟩:=QeS.1 d;have hk':k<(QbP s l).fs.length:=by rw[(Qc3 l s h).1];exact a
 refine ⟨hk',?_⟩;have:=b k;rw[Wa hk',Wa a,Wx,if_pos c]at this;injection this
theorem clrA_word(h:∀ i∈l,0<=i.seq){a:Nat}(b:¬ isC s.fs l (a/szS s)=true):(QbP s l).ws[a]?=s.ws[a]?:=by
 rw[(Qbh l s h).2 a];cases s.ws[a]? with
 | none=>rfl
 | some w=>rw[Wx,if_neg b]
theorem clrA_z(l:List Inc)(s:Sp):szS (QbP s l)=szS s:=by unfold szS;rw[clrA_sh]
theorem clrA_ok(o:Zn s)(h:∀ i∈l,0<=i.seq):Zn (QbP s l):=by
 obtain ⟨m,I⟩:=Qc3 l s h;have D:=clrA_z l s;have E:=Q2 o.fm;have b:∀ k (t:k<s.fs.length),¬ isC s.fs l k=true->∀ j (g:j<s.fs.length),s.fs[k].nx=(j:Int)->¬ isC s.fs l j=true:=λk t d j g e=>by
  rcases o.fm k t with f | f
  ·have:=f.2.2.1;omega
  ·obtain ⟨p,_⟩:=f.2.2.2.2 j g e;rw[Qee g,p,<- Qee t];exact d
 have F:∀ f:Int,(f<0\/¬ isC s.fs l f.toNat=true)->nxF (QbP s l).fs f=nxF s.fs f/\(nxF s.fs f<0\/¬ isC s.fs l (nxF s.fs f).toNat=true):=λf hf=>by
  by_cases r:0<=f/\f.toNat<s.fs.length
  ·have d:¬ isC s.fs l f.toNat=true:=by
    rcases hf with hf | hf
    ·omega
    ·exact hf
   obtain ⟨y,c⟩:=Qcu h r.2 d;rw[nxF_z r.1 y,nxF_z r.1 r.2,c];refine ⟨rfl,?_⟩;rcases U5 s.fs[f.toNat].nx 0 with q | q
   ·exact .inl q
   ·right;have:=E f.toNat r.2;exact b _ r.2 d s.fs[f.toNat].nx.toNat Oo Oo
  ·have M:nxF s.fs f = -1:=by unfold nxF;rw[dif_neg r]
   have N:nxF (QbP s l).fs f = -1:=by unfold nxF;rw[dif_neg (by rw[m];exact r)]
   rw[M,N];exact ⟨rfl,.inl Oo⟩
 have G:∀ (n:Nat) (f:Int),(f<0\/¬ isC s.fs l f.toNat=true)->itF (QbP s l).fs n f=itF s.fs n f:=by
  intro n;induction n with
  | zero=>intro f _;rfl
  | succ n ih =>intro f hf;obtain ⟨e,k⟩:=F f hf;show itF (QbP s l).fs n (nxF (QbP s l).fs f)=itF s.fs n (nxF s.fs f);rw[e];exact ih _ k
 refine ⟨⟨by rw[clrA_sh];exact o.shp.sh,by rw[m];exact o.shp.lo,by rw[m];exact o.shp.hi,by rw[m,I,D];exact o.shp.wl⟩,λk t=>?_,λi j C g K A e=>?_,λi C=>?_⟩
 ·rw[m]at t;by_cases d:isC s.fs l k=true
  ·obtain ⟨y,c⟩:=Qa3 h d;left;rw[c];refine ⟨rfl,rfl,rfl,λa B p w=>?_⟩;rw[D]at p w;have H:a/szS s=k:=Ya p w;have:=(Qbh l s h).2 a;rw[H,Wa B,Wa (by rw[<- I];exact B),Wx,if_pos d]at this;injection this
  ·obtain ⟨y,c⟩:=Qcu h t d;rw[c];rcases o.fm k t with f | f
   ·left;refine ⟨f.1,f.2.1,f.2.2.1,λa B p w=>?_⟩;rw[D]at p w;have H:a/szS s=k:=Ya p w;have x:a<s.ws.length:=by rw[<- I];exact B
    have:=clrA_word (s:=s) h (a:=a) (by rw[H];exact d);rw[Wa B,Wa x]at this;injection this with this;rw[this];exact f.2.2.2 a x p w
   ·right;refine ⟨f.1,f.2.1,by rw[m];exact f.2.2.1,f.2.2.2.1,λj g e=>?_⟩;rw[m]at g;obtain ⟨P,O⟩:=Qcu h g (b k t d j g e);rw[O];exact f.2.2.2.2 j g e
 ·have u:=C;have v:=g;rw[m]at u v A;by_cases z:isC s.fs l i=true
  ·obtain ⟨_,c⟩:=Qa3 h z;rw[c]
  ·obtain ⟨_,c⟩:=Qcu h u z;by_cases L:isC s.fs l j=true
   ·obtain ⟨_,J⟩:=Qa3 h L;rw[e,J]
   ·obtain ⟨_,J⟩:=Qcu h v L;rw[c]at e ⊢;rw[J]at e;exact o.uq i j u v K A e
 ·rw[m]at C ⊢;by_cases z:isC s.fs l i=true
  ·obtain ⟨y,c⟩:=Qa3 h z;show itF (QbP s l).fs s.fs.length (nxF (QbP s l).fs (i:Int)) = -1;rw[nxF_at y,c];exact XN _ rfl
  ·rw[G _ _ (.inr (by simpa using z))];exact o.ends i C
theorem clrA_w(c:SpW s)(h:∀ i∈l,0<=i.seq):SpW (QbP s l):=by
 obtain ⟨d,e⟩:=Qbh l s h;refine ⟨λx g=>?_,λf j=>?_⟩
 ·obtain ⟨a,b⟩:=W8.1 g;rw[e a]at b;cases hw:s.ws[a]? with
  | none=>rw[hw]at b;cases b
  | some w =>
   rw[hw,Wx]at b;injection b with b;rw[<- b];split
   ·unfold U64;omega
   ·exact c.1 w (Wq hw)
 ·obtain ⟨a,b⟩:=W8.1 j;rw[d a]at b;cases hw:s.fs[a]? with
  | none=>rw[hw]at b;cases b
  | some w =>
   rw[hw,Wx]at b;injection b with b;rw[<- b];split
   ·unfold I64;dsimp only;omega
   ·exact c.2 w (Wq hw)
theorem clrA_inc(h:∀ i∈l,0<=i.seq){i:Inc}{fr:List Nat}(d:IncC s.fs i fr)(m:i.seq∉l.map Inc.seq):IncC (QbP s l).fs i fr:=by obtain ⟨f,n⟩:=Qc3 l s h;refine d.keep f (D:=λk=>isC s.fs l k=true) (λk e _ b=>(Qcu h e b).2) λk e b=>?_;obtain ⟨o,g⟩:=Qa3 h b;refine ⟨λj=>?_,by rw[g];have:=d.sq;show (-1:Int)≠i.seq;omega⟩;obtain ⟨c,a⟩:=QeS.1 b;rw[(d.ow k c).2 j]at a;exact m a
end
structure StX(h:Hp)(BL:List (List Itm))(l:List Inc)(C K:List Itm)(T0 T:Itm)(M:List (Nat×Nat×Nat)):Prop where
 H:QQ h BL
 tgt:TgtP h.belts l
 S:StepC h BL l C K T0
 ctx:EvC h.space C K T0
 R:StpR h l C K T0 T M
 q:h.seq<=4294967294
theorem wAt_opt{s t:Sp}{a b:Nat}(h:s.ws[a]?=t.ws[b]?)(c:b<t.ws.length):wAt s (a:Int)=wAt t (b:Int):=by rw[Wa c]at h;rw[Xh h,Xh (Wa c)]
theorem obj_inj{h:Hp}{i:List (List Itm)}(H:QQ h i){x y:Itm}(n:x∈i.flatten)(m:y∈i.flatten){p r d k p' r' d' k':Nat}(l:(p,r,d)∈obs 0 x.os)(a:(p',r',d')∈obs 0 y.os)(z:k<=r+d)(t:k'<=r'+d')
  (e:adr (szS h.space) x.fr (p+k)=adr (szS h.space) y.fr (p'+k')):x=y/\p=p'/\r=r'/\d=d'/\k=k':=by
 have u:=(Jo H.sp.ok.shp.sh).2.2.1;have b:=H.sp.each x n;have j:=H.sp.each y m;have v:=Itm.posOk H.sp.ok b l;have w:=Itm.posOk H.sp.ok j a;have c:x=y:=by refine H.uniq n m (Classical.byContradiction λg=>?_);exact Qem Oo (b.inc.toIncC.disj j.inc.toIncC g) (p:=p+k) (q:=p'+k') Oo Oo e
 subst c;have:=Qcw Oo b.inc.nd (p:=p+k) (q:=p'+k') Oo Oo e;rcases obs_sep l a with q | q | q
 ·injection q with o f;injection f with f s;exact ⟨rfl,o,f,s,Oo⟩
 ·dsimp only at q;omega
 ·dsimp only at q;omega
section
variable{h:Hp}{BL:List (List Itm)}{l:List Inc}{C K:List Itm}{T0 T:Itm}{M:List (Nat×Nat×Nat)}
theorem StX.ln(X:StX h BL l C K T0 T M):∀ i∈l,0<=i.seq:=λi b=>by obtain ⟨x,a,e⟩:=X.tgt.mem X.H b;rw[<- e];exact (X.H.sp.each x a).inc.sq.1
theorem StX.z(X:StX h BL l C K T0 T M):8<=szS h.space:=X.ctx.toEvB.z0
theorem StX.z2(X:StX h BL l C K T0 T M):szS (XL h l)=szS h.space:=rfl
theorem StX.z3(X:StX h BL l C K T0 T M):szS (ZW h l).space=szS h.space:=rfl
theorem StX.len2(X:StX h BL l C K T0 T M):(XL h l).ws.length=h.space.ws.length/\(XL h l).fs.length=h.space.fs.length:=⟨(QaC _ _ _).trans X.R.inv.wl,X.R.inv.fl⟩
theorem StX.len3(X:StX h BL l C K T0 T M):(ZW h l).space.ws.length=h.space.ws.length/\(ZW h l).space.fs.length=h.space.fs.length:=by rw[Qgl];obtain ⟨a,b⟩:=Qc3 l (XL h l) X.ln;exact ⟨b.trans X.len2.1,a.trans X.len2.2⟩
theorem StX.ok2(X:StX h BL l C K T0 T M):Zn (XL h l)/\SpW (XL h l):=stpS_ok X.H X.S X.ctx X.R
theorem StX.ok3(X:StX h BL l C K T0 T M):Zn (ZW h l).space/\SpW (ZW h l).space:=by rw[Qgl];exact ⟨clrA_ok X.ok2.1 X.ln,clrA_w X.ok2.2 X.ln⟩
theorem StX.isC2(X:StX h BL l C K T0 T M){k:Nat}:isC (XL h l).fs l k=true<->∃ c∈C,k∈c.fr:=by have:=Qed (fs:=(XL h l).fs) (C:=C) (k:=k) λx a=>X.R.inv.oth x (Wg _ a);rw[X.S.ci]at this;exact this
theorem StX.kb(X:StX h BL l C K T0 T M){x:Itm}(a:x∈K):x∈BL.flatten/\x∉C/\x≠T0:=(X.S.kin x).1 a
theorem StX.noC(X:StX h BL l C K T0 T M){x:Itm}(d:x∈K\/x=T){k:Nat}(f:k∈x.fr):¬ isC (XL h l).fs l k=true:=by
 rw[X.isC2];rintro ⟨c,e,b⟩;have a:=X.R.inv.oth c (Wg _ e);rcases d with d | rfl
 ·exact a.disj (X.R.inv.oth x (Wj _ d)) (X.ctx.sqK c e x d) k b f
 ·exact a.disj X.R.inv.inc.toIncC (by rw[X.R.inv.sq.1];exact X.ctx.sqT c (Wg _ e)) k b f
theorem StX.tfr(X:StX h BL l C K T0 T M):∃ m,T.fr=T0.fr++m:=by obtain ⟨m,a,_⟩:=X.R.inv.fr;exact ⟨_,a⟩
theorem StX.t0room(X:StX h BL l C K T0 T M):T0.i.words.toNat<=T0.fr.length*szS h.space:=X.ctx.t0.inc.room X.ctx.ok
theorem StX.tadr(X:StX h BL l C K T0 T M){p:Nat}(a:p<T0.i.words.toNat):adr (szS h.space) T.fr p=adr (szS h.space) T0.fr p:=by obtain ⟨m,e⟩:=X.tfr;have:=X.t0room;have:=X.z;rw[e];exact ZL Oo Oo
theorem StX.w3(X:StX h BL l C K T0 T M){x:Itm}(b:x∈K\/x=T){p:Nat}(a:p<x.fr.length*szS h.space):(ZW h l).space.ws[adr (szS h.space) x.fr p]?=(XL h l).ws[adr (szS h.space) x.fr p]?:=by rw[Qgl];have c:=X.z;refine clrA_word X.ln ?_;rw[X.z2];exact X.noC b (adr_fr Oo a)
theorem StX.w2(X:StX h BL l C K T0 T M){a:Nat}(b:∀ q∈QaE h.space h.sets l,q.toNat≠a):(XL h l).ws[a]?=(Jb h l).1.s.ws[a]?:=QcR _ _ _ _ b
theorem StX.old(X:StX h BL l C K T0 T M){x:Itm}(c:x∈K\/x=T0){p r d k:Nat}(f:(p,r,d)∈obs 0 x.os)(n:k<=r+d) :
  x∈BL.flatten/\(Jb h l).1.s.ws[adr (szS h.space) x.fr (p+k)]?=h.space.ws[adr (szS h.space) x.fr (p+k)]?/\(ZW h l).space.ws[adr (szS h.space) x.fr (p+k)]?=(XL h l).ws[adr (szS h.space) x.fr (p+k)]?/\adr (szS h.space) x.fr (p+k)<h.space.ws.length:=by
 rcases c with c | rfl
 ·have a:=X.ctx.ks x c;have b:=Itm.posOk X.ctx.ok a f;refine ⟨(X.kb c).1,X.R.inv.kw x c _ Oo,X.w3 (.inl c) Oo,QaJ X.ctx.ok.shp a.inc.ch.lt Oo⟩
 ·have a:=X.ctx.t0;have b:=Itm.posOk X.ctx.ok a f;have g:=a.lay.get _ f;dsimp only at g;have i:x∈BL.flatten:=by
   rcases X.S.tin with k | ⟨b,e⟩
   ·exact k.1
   ·rw[e]at f;cases f
  obtain ⟨m,e⟩:=X.tfr;have j:adr (szS h.space) T.fr (p+k)=adr (szS h.space) x.fr (p+k):=X.tadr Oo;refine ⟨i,?_,?_,QaJ X.ctx.ok.shp a.inc.ch.lt Oo⟩
  ·have:=X.R.inv.tw (p+k) Oo;rwa [j]at this
  ·have:=X.w3 (x:=T) (.inr rfl) (p:=p+k) (by rw[e,We,Vk];omega);rwa [j]at this
theorem StX.notC(X:StX h BL l C K T0 T M){x:Itm}(a:x∈K\/x=T0):x∉C:=by
 rcases a with a | rfl
 ·exact (X.kb a).2.1
 ·rcases X.S.tin with k | ⟨b,e⟩
  ·exact k.2
  ·intro c;have:=X.H.sq x (X.S.cin x c);rw[e]at this;dsimp only at this;omega
theorem StX.w_old(X:StX h BL l C K T0 T M){x:Itm}(s:x∈K\/x=T0){p r d k:Nat}(c:(p,r,d)∈obs 0 x.os)(f:k<=r+d)(o:k=0\/r<k) :
  (ZW h l).space.ws[adr (szS h.space) x.fr (p+k)]?=h.space.ws[adr (szS h.space) x.fr (p+k)]?:=by obtain ⟨a,g,i,t⟩:=X.old s c f;rw[i,X.w2 λq n e=>?_,g];obtain ⟨u,_,y,j,v,w,z,A,b,B,D,E,m⟩:=XG X.H X.S.toStepB n;rw[m]at e;obtain ⟨_,_,F,G,H⟩:=obj_inj X.H j a b c Oo f e;omega
theorem ent_idx{l:List Int}(h:l.Pairwise (· < ·))(g:∀ q∈l,0<=q):l.Pairwise λa b=>a.toNat≠b.toNat:=by refine WA.2 λi j d f c e=>?_;have k:=WA.1 h i j d f c;have m:=g _ (Wc d);have n:=g _ (Wc f);omega
theorem StX.r_old(X:StX h BL l C K T0 T M){x:Itm}(v:x∈K\/x=T0){p r d k:Nat}(u:(p,r,d)∈obs 0 x.os)(N:1<=k)(O:k<=r) :
  ImgP h.space C (Jb h l).1.mv (wAt h.space ((adr (szS h.space) x.fr (p+k):Nat):Int)) (wAt (ZW h l).space ((adr (szS h.space) x.fr (p+k):Nat):Int)) /\
   (((adr (szS h.space) x.fr (p+k):Nat):Int)∉QaE h.space h.sets l->wAt (ZW h l).space ((adr (szS h.space) x.fr (p+k):Nat):Int)=wAt h.space ((adr (szS h.space) x.fr (p+k):Nat):Int)/\¬ Qeq h.space l (wAt h.space ((adr (szS h.space) x.fr (p+k):Nat):Int))):=by
 obtain ⟨m,B,s,D⟩:=X.old v u (k:=k) Oo;by_cases f:((adr (szS h.space) x.fr (p+k):Nat):Int)∈QaE h.space h.sets l
 ·refine ⟨?_,λt=>absurd f t⟩;obtain ⟨j,n⟩:=W8.1 f;obtain ⟨E,F⟩:=Wo.1 n;have g:=stp_lens X.R;have w:∀ q∈QaE h.space h.sets l,0<=q:=λq a=>(XG X.H X.S.toStepB a).1;have z:((Jb h l).2.drop (JB h.space h.roots l).length)[j]?=some ((Jb h l).2[(JB h.space h.roots l).length+j]' Oo):=by rw[WW,Wa Oo]
  have b:=wrtL_at (QaE h.space h.sets l) ((Jb h l).2.drop (JB h.space h.roots l).length) (Jb h l).1.s.ws (ent_idx (entL_asc _ _ _) w) (by rw[Wv];omega) (λq a=>by
   obtain ⟨G,_,y,H,t,P,Q,R,o,I,S,U,J⟩:=XG X.H X.S.toStepB a
   have:=(ZI X.H.sp.ok (X.H.sp.each y H) o (k:=I) Oo G J).2
   rw[X.R.inv.wl];omega) j _ _ n z
  rw[Wd]at b;have i:(ZW h l).space.ws[adr (szS h.space) x.fr (p+k)]?=some ((Jb h l).2[(JB h.space h.roots l).length+j]' Oo):=s.trans b;rw[Xh i];refine X.R.img ((JB h.space h.roots l).length+j) _ _ ?_ (Wa Oo);unfold stpW;rw[WC (by rw[Wb];omega),Wb,V9,Wh,n];rfl
 ·have i:(ZW h l).space.ws[adr (szS h.space) x.fr (p+k)]?=h.space.ws[adr (szS h.space) x.fr (p+k)]?:=by rw[s,X.w2 λq a e=>?_,B];have:=(XG X.H X.S.toStepB a).1;exact f (by rw[<- e,show ((q.toNat:Nat):Int)=q by omega];exact a)
  have A:=wAt_opt i D;have c:¬ Qeq h.space l (wAt h.space ((adr (szS h.space) x.fr (p+k):Nat):Int)):=λL=>f (slot_in X.H X.tgt X.S m (X.notC v) u N O L);rw[A];exact ⟨.inl ⟨by rw[X.S.ci];exact c,rfl⟩,λ_=>⟨rfl,c⟩⟩
theorem StX.new(X:StX h BL l C K T0 T M){o:Nat×Nat×Nat×Nat}(v:o∈nob T0.i.words.toNat M){k:Nat}(E:k<=o.2.2.1+o.2.2.2) :
  (ZW h l).space.ws[adr (szS h.space) T.fr (o.2.1+k)]?=(Jb h l).1.s.ws[adr (szS h.space) T.fr (o.2.1+k)]?/\((adr (szS h.space) T.fr (o.2.1+k):Nat):Int)∉QaE h.space h.sets l/\o.2.1+k<T.fr.length*szS h.space:=by
 have w:=X.z;have d:=Qbf X.R.inv;have m:=Jp M _ o v;have a:∀ q∈QaE h.space h.sets l,q.toNat≠adr (szS h.space) T.fr (o.2.1+k):=λq t e=>by
  obtain ⟨x,_,y,f,r,g,z,A,c,i,B,D,s⟩:=XG X.H X.S.toStepB t;rw[s]at e;have b:=Itm.posOk X.H.sp.ok (X.H.sp.each y f) c;rcases Qgy X.S.toStepB f r with j | rfl
  ·exact Qem Oo ((X.R.inv.oth y (Wj _ j)).disj X.R.inv.inc.toIncC (by rw[X.R.inv.sq.1];exact X.ctx.sqT y (Wj _ j))) (p:=g+i) (q:=o.2.1+k) Oo Oo e
  ·have n:=(X.H.sp.each y f).lay.get _ c;dsimp only at n;rw[<- X.tadr (p:=g+i) Oo]at e;have:=Qcw Oo X.R.inv.inc.nd (p:=g+i) (q:=o.2.1+k) Oo Oo e;omega
 refine ⟨(X.w3 (.inr rfl) Oo).trans (X.w2 a),λu=>a _ u (by rw[Wd]),Oo⟩
theorem StX.w_new(X:StX h BL l C K T0 T M){o:Nat×Nat×Nat×Nat}(a:o∈nob T0.i.words.toNat M) :
  (ZW h l).space.ws[adr (szS h.space) T.fr o.2.1]?=some (hdW o.2.2.1 o.2.2.2)/\∀ k,o.2.2.1<k->k<=o.2.2.1+o.2.2.2->(ZW h l).space.ws[adr (szS h.space) T.fr (o.2.1+k)]?=h.space.ws[srcA h.space o.1 k]?:=by refine ⟨?_,λk c b=>(X.new a b).1.trans (X.R.inv.dat o a k c b)⟩;have:=(X.new a (k:=0) Oo).1;rw[Vz]at this;exact this.trans (X.R.inv.hd o a)
theorem StX.r_new(X:StX h BL l C K T0 T M){o:Nat×Nat×Nat×Nat}(c:o∈nob T0.i.words.toNat M){k:Nat}(i:1<=k)(m:k<=o.2.2.1) :
  ImgP h.space C (Jb h l).1.mv (wAt h.space ((srcA h.space o.1 k:Nat):Int)) (wAt (ZW h l).space ((adr (szS h.space) T.fr (o.2.1+k):Nat):Int)):=by
 obtain ⟨j,b⟩:=W8.1 c;have a:j<M.length:=by have:=(Wo.1 b).1;rwa [Qcl]at this
 have:=X.R.inv.ref j o b k i m;rw[if_pos (.inl a)]at this;obtain ⟨w,v,e,f,g⟩:=this;have d:=(X.new c (k:=k) Oo).1.trans f;rw[Xh e,Xh d];exact g
end
theorem Lay.heads{z:Nat}{ws a:List Int}{fr fr':List Nat}:∀ {l:List (Nat×Nat)} {p q:Nat},Lay z ws fr p l q->(∀ o∈obs p l,a[adr z fr' o.1]?=some (hdW o.2.1 o.2.2))->Lay z a fr' p l q
 | [],p,q,h,_=>h
 | (r,d) :: l,p,q,h,k=>⟨h.1,h.2.1,k (p,r,d) (WH ..),h.2.2.2.heads λo b=>k o (Wp _ b)⟩
theorem Lay.append{z:Nat}{ws:List Int}{fr:List Nat}:∀ {l m:List (Nat×Nat)} {p q r:Nat},Lay z ws fr p l q->Lay z ws fr q m r->Lay z ws fr p (l++m) r
 | [],m,p,q,r,h,k=>by cases h;exact k
 | (a,b) :: l,m,p,q,r,h,k=>⟨h.1,h.2.1,h.2.2.1,h.2.2.2.append k⟩
theorem lay_nob{z:Nat}{ws:List Int}{fr:List Nat}:∀ {M:List (Nat×Nat×Nat)} {p:Nat},(∀ o∈nob p M,o.2.2.1<=15/\o.2.2.2<=32/\ws[adr z fr o.2.1]?=some (hdW o.2.2.1 o.2.2.2))->Lay z ws fr p (M.map (·.2)) (p+szM M)
 | [],p,_=>rfl
 | (a,r,d) :: M,p,h=>by have b:=h (a,p,r,d) (WH ..);refine ⟨b.1,b.2.1,b.2.2,?_⟩;have:=lay_nob (M:=M) (p:=p+1+r+d) (ws:=ws) (fr:=fr) (z:=z) λo c=>h o (Wp _ c);rw[show p+szM ((a,r,d) :: M)=p+1+r+d+szM M from by show p+(1+r+d+szM M)=_;omega];exact this
theorem Qga{α:Type}(t:α):∀ (B:List (List α)) (n:Nat),n<B.length->(B.modify n λq=>q++[t]).flatten.Perm (B.flatten++[t])
 | [],n,h=>by simp at h
 | q :: B,0,_=>by show ((q++[t]) :: B).flatten.Perm _;rw[Vr,Vr,WI,WI];exact Y2 _ List.perm_append_comm
 | q :: B,n+1,h=>by show (q :: B.modify n λq=>q++[t]).flatten.Perm _;rw[Vr,Vr,WI];exact Y2 _ (Qga t B n (by simpa using h))
def Jr(a:List (List Itm))(C:List Itm):List (List Itm):=a.map λq=>q.filter λx=>bP (x∉C)
def QdD(a T x:Itm):Itm:=open Classical in if x=a then T else x
def ZJ(a:List (List Itm))(C:List Itm)(b T:Itm):List (List Itm):=open Classical in if b∈a.flatten then(Jr a C).map λq=>q.map (QdD b T) else if 0<T.i.words then(Jr a C).modify b.i.belt.toNat λq=>q++[T] else Jr a C
theorem QgC{a:List (List Itm)}{C:List Itm}{x:Itm}:x∈(Jr a C).flatten<->x∈a.flatten/\x∉C:=by unfold Jr;rw[<- Yx,WX,QI]
theorem J2(a:List (List Itm))(C:List Itm):(Jr a C).length=a.length:=by unfold Jr;rw[Wb]
section
variable{h:Hp}{BL:List (List Itm)}{l:List Inc}{C K:List Itm}{T0 T:Itm}{M:List (Nat×Nat×Nat)}
theorem StX.tq(X:StX h BL l C K T0 T M):T.i.seq=T0.i.seq/\T.i.belt=T0.i.belt/\T.i.words=((T0.i.words.toNat+szM M:Nat):Int)/\0<=T0.i.words:=⟨X.R.inv.sq.1,X.R.inv.sq.2.1,X.R.inv.sq.2.2,X.ctx.t0.inc.wd.1⟩
theorem StX.b0(X:StX h BL l C K T0 T M):T0.i.belt.toNat<BL.length:=by have:=X.S.tb;have:=X.H.bn;omega
theorem StX.mem(X:StX h BL l C K T0 T M){x:Itm}:x∈(ZJ BL C T0 T).flatten<->x∈K\/(x=T/\0<T.i.words):=by
 have g:=X.tq;unfold ZJ;by_cases b:T0∈BL.flatten
 ·rw[if_pos b,<- Yr,Wm];have a:=X.S.tw.2 b;have d:T0∉C:=X.notC (.inr rfl);constructor
  ·rintro ⟨y,f,rfl⟩;have:=QgC.1 f;unfold QdD;by_cases e:y=T0
   ·rw[if_pos e];exact .inr ⟨rfl,Oo⟩
   ·rw[if_neg e];exact .inl ((X.S.kin y).2 ⟨this.1,this.2,e⟩)
  ·rintro (hk | ⟨rfl,_⟩)
   ·have:=X.kb hk;exact ⟨x,QgC.2 ⟨this.1,this.2.1⟩,by unfold QdD;rw[if_neg this.2.2]⟩
   ·exact ⟨T0,QgC.2 ⟨b,d⟩,by unfold QdD;rw[if_pos rfl]⟩
 ·rw[if_neg b];have c:x∈(Jr BL C).flatten<->x∈K:=by rw[QgC,X.S.kin];exact ⟨λk=>⟨k.1,k.2,λe=>b (e▸k.1)⟩,λk=>⟨k.1,k.2.1⟩⟩
  by_cases a:0<T.i.words
  ·rw[if_pos a,(Qga T _ _ (by rw[J2];exact X.b0)).mem_iff,Wk,Wn,c];exact ⟨λk=>k.imp id λk=>⟨k,a⟩,λk=>k.imp id λk=>k.1⟩
  ·rw[if_neg a,c];exact ⟨.inl,λk=>k.elim id λk=>absurd k.2 a⟩
theorem StX.cseq(X:StX h BL l C K T0 T M){x:Itm}(d:x∈BL.flatten):x.i.seq∈l.map Inc.seq<->x∈C:=by
 rw[<- X.S.ci,Va];constructor
 ·intro b;obtain ⟨y,a,e⟩:=Wm.1 b;exact X.H.uniq (X.S.cin y a) d e▸a
 ·intro c;exact Vc (f:=Inc.seq∘Itm.i) c
theorem StX.rem(X:StX h BL l C K T0 T M):remA h.belts l=(Jr BL C).map λq=>q.map Itm.i:=by
 rw[Qcf,X.H.bl];unfold Jr;rw[Va,Va];refine W7 λq a=>?_;show (q.map Itm.i).filter _=(q.filter λx=>bP (x∉C)).map Itm.i;rw[List.filter_map];refine congrArg _ (U0 λx b=>?_);have:=X.cseq (Vu.2 ⟨q,a,b⟩);show (!decide (x.i.seq∈l.map Inc.seq))=bP (x∉C);by_cases c:x∈C
 ·rw[Qfm (λk=>k c),decide_eq_true (this.2 c)];rfl
 ·rw[Qa5 c,decide_eq_false λk=>c (this.1 k)];rfl
theorem StX.belts(X:StX h BL l C K T0 T M):(ZW h l).belts=(ZJ BL C T0 T).map (λq=>q.map Itm.i)/\(ZW h l).seq=(open Classical in if T0∈BL.flatten\/¬ 0<T.i.words then h.seq else h.seq+1):=by
 have i:=X.tq;have j:(Jb h l).1.to=T.i:=X.R.inv.to;have t:=X.q;have s:=X.H.sq0;show (stpB h l).1=_/\(stpB h l).2=_;unfold stpB ZJ;rw[<- X.S.ti,j,X.rem];by_cases c:T0∈BL.flatten
 ·have m:=X.S.tw.2 c;rw[if_pos m,if_pos c,if_pos (.inl c)];refine ⟨?_,rfl⟩;unfold repB;rw[Va];apply Ud;intro n;rw[Vf,Wh,Wh];cases b:(Jr BL C)[n]? with
  | none=>rfl
  | some q =>
   simp only[Wx,VZ];congr 1;have f:∀ x∈q,x∈BL.flatten/\x.i.belt=(n:Int):=λx d=>by
    unfold Jr at b;rw[Wh]at b;cases hb2:BL[n]? with
    | none=>rw[hb2]at b;cases b
    | some p =>rw[hb2,Wx]at b;injection b with b;rw[<- b]at d;obtain ⟨r,rfl⟩:=Wo.1 hb2;have g:=(WX.1 d).1;exact ⟨Vu.2 ⟨_,Wc r,g⟩,X.H.blt n r x g⟩
   have o:∀ x∈q,(if x.i.seq=T.i.seq then T.i else x.i)=(QdD T0 T x).i:=λx d=>by
    unfold QdD;by_cases e:x=T0
    ·rw[if_pos e,if_pos (by rw[e,i.1])]
    ·rw[if_neg e,if_neg];rw[i.1];exact λk=>e (X.H.uniq (f x d).1 c k)
   by_cases e:T.i.belt.toNat=n
   ·rw[if_pos e];show repQ T.i (q.map Itm.i)=(q.map (QdD T0 T)).map Itm.i;unfold repQ;rw[Va,Va];exact W7 o
   ·rw[if_neg e];show q.map Itm.i=(q.map (QdD T0 T)).map Itm.i;rw[Va];refine W7 λx d=>?_;show x.i=(QdD T0 T x).i;unfold QdD;rw[if_neg];rintro rfl;have:=(f x d).2;rw[i.2.1,this]at e;exact e rfl
 ·have m:¬ 0<T0.i.words:=λk=>c (X.S.tw.1 k);rw[if_neg m,if_neg c];by_cases a:0<T.i.words
  ·rw[if_pos a,if_pos a,if_neg (by rintro (k | k);exact c k;exact k a)];refine ⟨?_,Qb Oo⟩;unfold addB;rw[i.2.1];apply Ud;intro n;rw[Vf,Wh,Wh,Vf];cases (Jr BL C)[n]? with
   | none=>rfl
   | some q =>
    simp only[Wx,VZ];congr 1;by_cases e:T0.i.belt.toNat=n
    ·rw[if_pos e,if_pos e,WP];rfl
    ·rw[if_neg e,if_neg e]
  ·rw[if_neg a,if_neg a,if_pos (.inr a)];exact ⟨rfl,rfl⟩
theorem StX.itmK(X:StX h BL l C K T0 T M){x:Itm}(e:x∈K):Qa6 (ZW h l).space x:=by
 have c:=X.ctx.ks x e;have a:=X.kb e;have g:IncC (ZW h l).space.fs x.i x.fr:=by rw[Qgl];exact clrA_inc X.ln (s:=XL h l) (X.R.inv.oth x (Wj _ e)) λk=>a.2.1 ((X.cseq a.1).1 k)
 refine ⟨⟨g,by rw[X.len3.1];exact c.inc.wd,c.inc.len⟩,?_⟩;rw[X.z3];refine c.lay.heads λo f=>?_;have b:=Itm.posOk X.ctx.ok c (p:=o.1) (r:=o.2.1) (d:=o.2.2) f;have:=X.w_old (.inl e) (p:=o.1) (r:=o.2.1) (d:=o.2.2) (k:=0) f Oo (.inl rfl);rw[Vz]at this;exact this.trans b.2.2.2
theorem StX.tns(X:StX h BL l C K T0 T M):T.i.seq∉l.map Inc.seq:=λa=>by rw[X.tq.1,<- X.S.ci,Va]at a;obtain ⟨y,b,e⟩:=Wm.1 a;exact X.ctx.sqT y (Wg _ b) e
theorem StX.incT(X:StX h BL l C K T0 T M):IncC (ZW h l).space.fs T.i T.fr:=by rw[Qgl];exact clrA_inc X.ln (s:=XL h l) X.R.inv.inc.toIncC X.tns
theorem StX.src(X:StX h BL l C K T0 T M){o:Nat×Nat×Nat×Nat}(a:o∈nob T0.i.words.toNat M):∃ x∈C,∃ p,(p,o.2.2)∈obs 0 x.os/\o.1=adr (szS h.space) x.fr p:=X.R.inv.src _ (QdE M _ o a)
theorem StX.itmT(X:StX h BL l C K T0 T M):Qa6 (ZW h l).space T:=by
 have c:=X.ctx.t0;have g:=X.tq;have f:=X.R.inv.inc;refine ⟨⟨X.incT,by rw[X.len3.1,<- X.R.inv.wl];exact f.wd,?_⟩,?_⟩
 ·have:=f.len;unfold clN at this ⊢;rw[X.R.inv.z]at this;exact this
 ·rw[X.z3,X.R.inv.os,g.2.2.1,Wd];refine Lay.append (q:=T0.i.words.toNat) ?_ ?_
  ·refine c.lay.heads λo a=>?_;have b:=Itm.posOk X.ctx.ok c (p:=o.1) (r:=o.2.1) (d:=o.2.2) a;have m:=c.lay.get o a;have:=X.w_old (.inr rfl) (p:=o.1) (r:=o.2.1) (d:=o.2.2) (k:=0) a Oo (.inl rfl);rw[Vz]at this;rw[X.tadr Oo];exact this.trans b.2.2.2
  ·refine lay_nob λo a=>?_;obtain ⟨x,i,p,j,e⟩:=X.src a;have b:=Itm.posOk X.ctx.ok (X.ctx.cs x i) j;exact ⟨b.2.1,b.2.2.1,(X.w_new a).1⟩
theorem StX.each(X:StX h BL l C K T0 T M):∀ x∈(ZJ BL C T0 T).flatten,Qa6 (ZW h l).space x:=λx a=>by
 rcases X.mem.1 a with k | ⟨rfl,_⟩
 ·exact X.itmK k
 ·exact X.itmT
theorem StX.bseqs(X:StX h BL l C K T0 T M):(ZJ BL C T0 T).flatten.Pairwise λx y=>x.i.seq≠y.i.seq:=by
 have b:(Jr BL C).flatten.Pairwise λx y=>x.i.seq≠y.i.seq:=by unfold Jr;rw[<- Yx];exact X.H.sp.seqs.filter _
 unfold ZJ;by_cases c:T0∈BL.flatten
 ·rw[if_pos c,<- Yr,Vs];have a:∀ x,(QdD T0 T x).i.seq=x.i.seq:=λx=>by
   unfold QdD;by_cases e:x=T0
   ·rw[if_pos e,e,X.tq.1]
   ·rw[if_neg e]
  exact b.imp λk=>by rw[a,a];exact k
 ·rw[if_neg c];by_cases d:0<T.i.words
  ·rw[if_pos d,(Qga T _ _ (by rw[J2];exact X.b0)).pairwise_iff (λk e=>k e.symm),Ve];refine ⟨b,UQ _ _,λx f y g=>?_⟩;rw[Wn.1 g,X.tq.1];have:=QgC.1 f;exact X.ctx.sqT x (Wj _ ((X.S.kin x).2 ⟨this.1,this.2,λe=>c (e▸this.1)⟩))
  ·rw[if_neg d];exact b
theorem StX.all(X:StX h BL l C K T0 T M):∀ k (m:k<(ZW h l).space.fs.length),¬ (ZW h l).space.fs[k].ow = -1->∃ x∈(ZJ BL C T0 T).flatten,k∈x.fr:=λk m g=>by
 have a:k<(XL h l).fs.length:=by rw[X.len2.2,<- X.len3.2];exact m
 have b:¬ isC (XL h l).fs l k=true:=λp=>by obtain ⟨n,i⟩:=Qa3 X.ln p;apply g;have:(ZW h l).space.fs[k]=feF:=i;exact congrArg Fe.ow this
 obtain ⟨n,i⟩:=Qcu X.ln a b;have e:(ZW h l).space.fs[k]=(XL h l).fs[k]:=i;have g:¬ (XL h l).fs[k].ow = -1:=λq=>g ((congrArg Fe.ow e).trans q);rcases X.R.inv.own k a g with j | ⟨x,o,f⟩
 ·refine ⟨T,X.mem.2 (.inr ⟨rfl,?_⟩),j⟩;have d:=X.R.inv.inc;apply Classical.byContradiction;intro r;have:=d.nil X.R.inv.ok.shp (by have:=d.wd;omega);rw[this]at j;cases j
 ·rcases Wk.1 o with c | c
  ·exact absurd (X.isC2.2 ⟨x,c,f⟩) b
  ·exact ⟨x,X.mem.2 (.inl c),f⟩
theorem StX.sp(X:StX h BL l C K T0 T M):QcM (ZW h l).space (ZJ BL C T0 T).flatten:=⟨X.ok3.1,X.ok3.2,X.each,X.bseqs,X.all⟩
end
section
variable{h:Hp}{BL:List (List Itm)}{l:List Inc}{C K:List Itm}{T0 T:Itm}{M:List (Nat×Nat×Nat)}
theorem StX.osT(X:StX h BL l C K T0 T M):obs 0 T.os=obs 0 T0.os++(nob T0.i.words.toNat M).map (·.2):=by rw[X.R.inv.os,obs_append T0.os (M.map (·.2)) 0 T0.i.words.toNat (szS h.space) h.space.ws T0.fr X.ctx.t0.lay,obs_map]
theorem StX.objOld(X:StX h BL l C K T0 T M){x:Itm}(c:x∈K\/x=T0){p r d:Nat}(a:(p,r,d)∈obs 0 x.os):∃ y∈(ZJ BL C T0 T).flatten,(p,r,d)∈obs 0 y.os/\∀ k,k<=r+d->adr (szS h.space) y.fr (p+k)=adr (szS h.space) x.fr (p+k):=by
 rcases c with c | rfl
 ·exact ⟨x,X.mem.2 (.inl c),a,λk _=>rfl⟩
 ·have b:=(X.old (.inr rfl) a (k:=0) Oo).1;have f:=X.S.tw.2 b;have g:=X.tq;have e:=X.ctx.t0.lay.get _ a;dsimp only at e;refine ⟨T,X.mem.2 (.inr ⟨rfl,Oo⟩),?_,λk i=>X.tadr Oo⟩;rw[X.osT];exact Wg _ a
theorem StX.objNew(X:StX h BL l C K T0 T M){o:Nat×Nat×Nat×Nat}(a:o∈nob T0.i.words.toNat M):T∈(ZJ BL C T0 T).flatten/\o.2∈obs 0 T.os:=by have c:=X.tq;have b:=Jp M _ o a;refine ⟨X.mem.2 (.inr ⟨rfl,Oo⟩),?_⟩;rw[X.osT];exact Wj _ (Vc a)
theorem StX.cases(X:StX h BL l C K T0 T M){y:Itm}(c:y∈(ZJ BL C T0 T).flatten){p r d:Nat}(hp:(p,r,d)∈obs 0 y.os) :
  (∃ x,(x∈K\/x=T0)/\(p,r,d)∈obs 0 x.os/\∀ k,k<=r+d->adr (szS h.space) y.fr (p+k)=adr (szS h.space) x.fr (p+k))\/(y=T/\∃ o∈nob T0.i.words.toNat M,o.2=(p,r,d)):=by
 rcases X.mem.1 c with k | ⟨rfl,_⟩
 ·exact .inl ⟨y,.inl k,hp,λk _=>rfl⟩
 ·rw[X.osT]at hp;rcases Wk.1 hp with hp | hp
  ·have a:=X.ctx.t0.lay.get _ hp;dsimp only at a;exact .inl ⟨T0,.inr rfl,hp,λk f=>X.tadr Oo⟩
  ·obtain ⟨o,b,e⟩:=Wm.1 hp;exact .inr ⟨rfl,o,b,e⟩
theorem StX.mv(X:StX h BL l C K T0 T M){m:Mov}(a:m∈(Jb h l).1.mv):∃ o∈nob T0.i.words.toNat M,m=⟨(o.1:Int),((adr (szS h.space) T.fr o.2.1:Nat):Int)⟩:=by rw[X.R.inv.mv]at a;obtain ⟨o,b,rfl⟩:=Wm.1 a;exact ⟨o,b,rfl⟩
theorem StX.winOf(X:StX h BL l C K T0 T M){w:Int}(o:¬ Qeq h.space (C.map Itm.i) w)(c:RefW (szS h.space) BL.flatten w):w=0\/(1<=w/\∃ x,(x∈K\/x=T0)/\∃ p r d,(p,r,d)∈obs 0 x.os/\(w-1).toNat=adr (szS h.space) x.fr p/\x∈BL.flatten):=by
 rcases c with c | ⟨j,r,d,y,f,p,g,e⟩
 ·exact .inl c
 ·have a:=X.H.sp.each y f;have b:=Itm.posOk X.H.sp.ok a g;have i:=QaJ X.H.sp.ok.shp a.inc.ch.lt (p:=p) Oo;refine .inr ⟨j,y,Qgy X.S.toStepB f λm=>o ⟨⟨Oo,Oo⟩,?_⟩,p,r,d,g,e,f⟩;rw[Qed λx n=>(X.H.sp.each x (X.S.cin x n)).inc.toIncC];refine ⟨y,m,?_⟩;have:=(ZI X.H.sp.ok a g (k:=0) Oo (q:=w-1) Oo e).1;exact this
theorem StX.img(X:StX h BL l C K T0 T M){w v:Int}(z:RefW (szS h.space) BL.flatten w)(u:ImgP h.space C (Jb h l).1.mv w v):RefW (szS h.space) (ZJ BL C T0 T).flatten v:=by
 rcases u with ⟨j,rfl⟩ | ⟨A,m,n,B,q⟩
 ·rcases X.winOf j z with k | ⟨b,x,s,p,r,d,t,e,_⟩
  ·exact .inl k
  ·obtain ⟨y,c,a,f⟩:=X.objOld s t;exact .inr ⟨b,r,d,y,c,p,a,by rw[e];exact (f 0 Oo).symm⟩
 ·obtain ⟨o,g,rfl⟩:=X.mv n;obtain ⟨b,i⟩:=X.objNew g;dsimp only at q;exact .inr ⟨Oo,o.2.2.1,o.2.2.2,T,b,o.2.1,i,Oo⟩
theorem StX.slot(X:StX h BL l C K T0 T M){q:Nat}(z:QaX (szS h.space) (ZJ BL C T0 T).flatten q) :
  ∃ w,RefW (szS h.space) BL.flatten w/\ImgP h.space C (Jb h l).1.mv w (wAt (ZW h l).space (q:Int)):=by
 obtain ⟨y,n,p,r,d,s,k,f,i,rfl⟩:=z;rcases X.cases n s with ⟨x,b,a,v⟩ | ⟨rfl,o,j,e⟩
 ·rw[v k Oo];have g:=(X.old b a (k:=k) Oo).1;exact ⟨_,X.H.refs _ ⟨x,g,p,r,d,a,k,f,i,rfl⟩,(X.r_old b a f i).1⟩
 ·have m:o.2.1=p:=by rw[e]
  have A:o.2.2.1=r:=by rw[e]
  obtain ⟨x,b,t,c,u⟩:=X.src j;have:=X.r_new j (k:=k) f Oo;rw[m]at this;refine ⟨_,?_,this⟩;rw[u,Qgm X.ctx.toEvB b c (by show k<=o.2.2.1+o.2.2.2;omega)];exact X.H.refs _ ⟨x,X.S.cin x b,t,o.2.2.1,o.2.2.2,c,k,f,Oo,rfl⟩
theorem StX.refs(X:StX h BL l C K T0 T M):∀ q,QaX (szS (ZW h l).space) (ZJ BL C T0 T).flatten q->RefW (szS (ZW h l).space) (ZJ BL C T0 T).flatten (wAt (ZW h l).space (q:Int)):=λq c=>by obtain ⟨w,a,b⟩:=X.slot c;exact X.img a b
theorem StX.root(X:StX h BL l C K T0 T M){i:Nat}(s:i∈ZY h.roots):ImgP h.space C (Jb h l).1.mv (Qz h.roots i) (Qz (ZW h l).roots i):=by
 have t:=X.H.rts.u;have p:=X.H.rts.v;have u:i<h.roots.refs.length:=by have:=(Wo.1 (Xj.1 s)).1;omega
 have f:((JB h.space h.roots l).map λ(i:Nat)=>(i:Int)).Pairwise λa b=>a.toNat≠b.toNat:=by
  rw[Vs];have:(JB h.space h.roots l).Pairwise (· < ·):=by unfold JB ZY;exact (List.pairwise_lt_range.filter _).filter _
  exact this.imp λh=>by omega
 by_cases n:i∈JB h.space h.roots l
 ·obtain ⟨j,k⟩:=W8.1 n;have c:=(Wo.1 k).1;have g:=stp_lens X.R;have d:=wrtL_at ((JB h.space h.roots l).map λ(i:Nat)=>(i:Int)) ((Jb h l).2.take (JB h.space h.roots l).length) h.roots.refs f (by rw[Wb,Wf];omega) (λq o=>by
   obtain ⟨a,m,rfl⟩:=Wm.1 o
   have:=(Wo.1 (Xj.1 (QeU m).1)).1
   rw[Wd];omega) j (i:Int) ((Jb h l).2[j]' Oo) (by rw[Wh,k];rfl) (by rw[WM,if_pos c,Wa Oo])
  rw[Wd]at d;have e:Qz (ZW h l).roots i=(Jb h l).2[j]' Oo:=by unfold Qz;show ((stpR h l)[i]?).getD 0=_;unfold stpR;rw[d];rfl
  rw[e];refine X.R.img j _ _ ?_ (Wa Oo);unfold stpW;rw[WF (by rw[Wb];exact c),Wh,k];rfl
 ·have e:Qz (ZW h l).roots i=Qz h.roots i:=by unfold Qz;show ((stpR h l)[i]?).getD 0=_;unfold stpR;rw[QcR _ _ _ _ λq o e=>?_];obtain ⟨a,m,rfl⟩:=Wm.1 o;rw[Wd]at e;exact n (e▸m)
  rw[e];refine .inl ⟨λr=>n ?_,rfl⟩;unfold JB;rw[WX,QI];rw[X.S.ci]at r;exact ⟨s,r⟩
theorem StX.roots(X:StX h BL l C K T0 T M):Qcz (ZW h l).roots/\∀ i∈ZY (ZW h l).roots,1<=Qz (ZW h l).roots i/\∃ r d,ObjZ (szS (ZW h l).space) (ZJ BL C T0 T).flatten (Qz (ZW h l).roots i-1).toNat r d:=by
 have f:=X.H.rts;refine ⟨⟨f.u,(QaC _ _ _).trans f.v,λi n A p=>?_,λx u=>?_⟩,λi j=>?_⟩
 ·have g:i<h.roots.refs.length:=by have:=f.u;have:=f.v;have:i<h.roots.used.length:=n;omega
  have b:=QcR ((JB h.space h.roots l).map λ(i:Nat)=>(i:Int)) ((Jb h l).2.take (JB h.space h.roots l).length) h.roots.refs i λq w e=>by obtain ⟨a,s,rfl⟩:=Wm.1 w;rw[Wd]at e;subst e;have:=Xj.1 (QeU s).1;rw[Wa (show a<h.roots.used.length from n)]at this;injection this with this;exact absurd ((show h.roots.used[a]=false from p).symm.trans this) Od
  have:=f.z i n g p;rw[Wa g]at b;rw[this]at b;exact (Wo.1 b).2
 ·exact QfT _ _ _ f.w (λv y=>X.R.u v (VJ y)) x u
 ·have j:i∈ZY h.roots:=j;have c:=X.H.roots i j;have:=X.img (.inr c) (X.root j);rcases this with k | k
  ·exfalso;rcases X.root j with ⟨_,e⟩ | ⟨_,m,t,_,e⟩
   ·rw[e]at k;omega
   ·obtain ⟨o,z,rfl⟩:=X.mv t;rw[e]at k;dsimp only at k;omega
  ·exact k
theorem StX.same(X:StX h BL l C K T0 T M){x:Itm}(j:x∈K\/x=T0)(n:x∈BL.flatten){k:Nat}(d:k∈x.fr) :
  ∃ (f:k<h.space.fs.length) (c:k<(ZW h l).space.fs.length),(ZW h l).space.fs[k].ow=h.space.fs[k].ow/\(ZW h l).space.fs[k].st=h.space.fs[k].st/\¬ h.space.fs[k].ow = -1:=by
 have b:=(X.H.sp.each x n).inc.toIncC;have f:=b.ch.lt k d;have c:k<(ZW h l).space.fs.length:=by rw[X.len3.2];exact f
 refine ⟨f,c,?_⟩;have o:=b.sq;rw[(b.ow k f).2 d,b.st k f d];rcases j with j | rfl
 ·have a:=(X.itmK j).inc.toIncC;exact ⟨(a.ow k c).2 d,a.st k c d,Oo⟩
 ·obtain ⟨m,e⟩:=X.tfr;have g:k∈T.fr:=by rw[e];exact Wg _ d
  have i:=X.tq;have a:=X.incT;refine ⟨?_,?_,Oo⟩
  ·rw[(a.ow k c).2 g,i.1]
  ·rw[a.st k c g,i.1,i.2.1]
theorem StX.fields(X:StX h BL l C K T0 T M){o:Nat×Nat×Nat×Nat}(m:o∈nob T0.i.words.toNat M) :
  (QbX (XL h l) ((adr (szS h.space) T.fr o.2.1:Nat):Int)).1=(List.range o.2.2.1).map λj=>((adr (szS h.space) T.fr (o.2.1+(j+1)):Nat):Int):=by
 obtain ⟨x,n,p,q,e⟩:=X.src m;have b:=Itm.posOk X.ctx.ok (X.ctx.cs x n) q;have g:=(X.new m (k:=o.2.2.1+o.2.2.2) Oo).2.2;have a:Chn (XL h l).fs T.fr:=X.R.inv.inc.ch;have c:Own (XL h l).fs T.fr:=X.R.inv.inc.own;have i:(XL h l).ws[adr (szS (XL h l)) T.fr o.2.1]?=some (hdW o.2.2.1 o.2.2.2):=by rw[X.z2,<- X.w3 (.inr rfl) Oo];exact (X.w_new m).1
 have f:=(QeR X.ok2.1 a c (p:=o.2.1) (r:=o.2.2.1) (d:=o.2.2.2) (by rw[X.z2];omega) b.2.1 b.2.2.1 i).1;rw[X.z2]at f;unfold QbX;rw[f,if_pos rfl];dsimp only;unfold fldL;rw[Wd];refine W7 λj s=>?_;rw[WE]at s;have:=go_k (k:=j+1) X.ok2.1.shp a c (p:=o.2.1) (by rw[X.z2];omega);rw[X.z2]at this;rw[show (1+(j:Int))=((j+1:Nat):Int) by omega,this]
theorem StX.movF(X:StX h BL l C K T0 T M){q:Int}:q∈movF (XL h l) (Jb h l).1.mv<->∃ o∈nob T0.i.words.toNat M,∃ k,1<=k/\k<=o.2.2.1/\q=((adr (szS h.space) T.fr (o.2.1+k):Nat):Int):=by
 unfold Go.Proofs.YthadnbdbfpggdaaGreatDoor.movF;rw[UP];constructor
 ·rintro ⟨m,c,b⟩;obtain ⟨o,a,rfl⟩:=X.mv c;rw[X.fields a]at b;obtain ⟨j,d,rfl⟩:=Wm.1 b;rw[WE]at d;exact ⟨o,a,j+1,Oo,Oo,rfl⟩
 ·rintro ⟨o,a,k,e,f,rfl⟩;refine ⟨⟨(o.1:Int),((adr (szS h.space) T.fr o.2.1:Nat):Int)⟩,by rw[X.R.inv.mv];exact Wm.2 ⟨o,a,rfl⟩,?_⟩;rw[X.fields a];exact Wm.2 ⟨k-1,by rw[WE];omega,by rw[show o.2.1+(k-1+1)=o.2.1+k by omega]⟩
theorem StX.inS(X:StX h BL l C K T0 T M):Ql (ZW h l).sets/\ZK (ZW h l).sets/\∀ f t q,InS (ZW h l).sets f t q <->
  (InS h.sets f t q/\¬ f∈(cfr (XL h l).fs l).map (λ(k:Nat)=>(k:Int))/\¬ t∈(cfr (XL h l).fs l).map (λ(k:Nat)=>(k:Int))) \/
   ((q∈QaE h.space h.sets l\/q∈Go.Proofs.YthadnbdbfpggdaaGreatDoor.movF (XL h l) (Jb h l).1.mv)/\Qby (XL h l) q (wAt (XL h l) q)/\f=Jn (XL h l) q/\t=Jn (XL h l) (wAt (XL h l) q-1)):=by
 have a:=Qdu X.H.sok ((cfr (XL h l).fs l).map λ(k:Nat)=>(k:Int));have b:ZK (Qat h.sets ((cfr (XL h l).fs l).map λ(k:Nat)=>(k:Int))):=λx m=>X.H.sin x (J0.1 m).1;obtain ⟨c,d,e⟩:=Qcj X.ok2.1 (QaE h.space h.sets l) a b;obtain ⟨g,i,j⟩:=Qcj X.ok2.1 (Go.Proofs.YthadnbdbfpggdaaGreatDoor.movF (XL h l) (Jb h l).1.mv) c d;refine ⟨g,i,λf t q=>(j f t q).trans ?_⟩;rw[e,InS_drop];constructor
 ·rintro ((k | ⟨k,k2⟩) | ⟨k,k2⟩)
  ·exact .inl k
  ·exact .inr ⟨.inl k,k2⟩
  ·exact .inr ⟨.inr k,k2⟩
 ·rintro (k | ⟨k | k,k2⟩)
  ·exact .inl (.inl k)
  ·exact .inl (.inr ⟨k,k2⟩)
  ·exact .inr ⟨k,k2⟩
end
theorem lt_sub{a b c d:Int}(h:a<b)(f:a=c)(e:b=d):c<d:=by subst f;subst e;exact h
theorem fs_at{fs:List Fe}{i j:Nat}(e:i=j)(a:j<fs.length)(h:¬ fs[j].ow = -1):∃ hi:i<fs.length,¬ fs[i].ow = -1:=by subst e;exact ⟨a,h⟩
section
variable{h:Hp}{BL:List (List Itm)}{l:List Inc}{C K:List Itm}{T0 T:Itm}{M:List (Nat×Nat×Nat)}
theorem obj_owned{s:Sp}{L:List Itm}(c:QcM s L){a r d:Nat}(h:ObjZ (szS s) L a r d){q:Int}(i:0<=q)(e:q.toNat=a):∃ hl:Jn s q<s.fs.length,¬ s.fs[Jn s q].ow = -1:=by obtain ⟨x,f,p,g,rfl⟩:=h;have b:=c.each x f;have:=(ZI c.ok b g (k:=0) Oo i e).1;have hl:=b.inc.ch.lt _ this;exact ⟨hl,b.inc.toIncC.own _ this hl⟩
theorem StX.cf(X:StX h BL l C K T0 T M){k:Nat}:((k:Nat):Int)∈(cfr (XL h l).fs l).map (λ(k:Nat)=>(k:Int))<->∃ c∈C,k∈c.fr:=by rw[mem_nat,mem_cfr];exact X.isC2
theorem StX.ncf(X:StX h BL l C K T0 T M){x:Itm}(j:x∈K\/x=T0)(a:x∈BL.flatten){k:Nat}(i:k∈x.fr):¬ ((k:Nat):Int)∈(cfr (XL h l).fs l).map (λ(k:Nat)=>(k:Int)):=by rw[X.cf];rintro ⟨c,b,d⟩;have f:=(X.H.sp.each x a).inc.toIncC;have g:=(X.H.sp.each c (X.S.cin c b)).inc.toIncC;exact f.disj g (λe=>X.notC j (X.H.uniq a (X.S.cin c b) e▸b)) k i d
theorem StX.wAt2(X:StX h BL l C K T0 T M){q:Nat}(j:QaX (szS h.space) (ZJ BL C T0 T).flatten q):wAt (XL h l) (q:Int)=wAt (ZW h l).space (q:Int):=by obtain ⟨y,g,p,r,d,i,k,m,n,rfl⟩:=j;have f:=X.each y g;have b:=Itm.posOk X.ok3.1 f i;rw[X.z3]at b;have c:y∈K\/y=T:=(X.mem.1 g).imp id λk=>k.1;have e:=X.w3 c (p:=p+k) Oo;have a:=QaJ X.ok3.1.shp f.inc.ch.lt (p:=p+k) (by rw[X.z3];omega);rw[X.z3]at a;exact wAt_opt e.symm a
theorem StX.snd(X:StX h BL l C K T0 T M):∀ f t q,InS (ZW h l).sets f t q->QaX (szS (ZW h l).space) (ZJ BL C T0 T).flatten q.toNat/\f=(Jn (ZW h l).space q:Int)/\∃ (h2:t.toNat<(ZW h l).space.fs.length),0<=t/\¬ (ZW h l).space.fs[t.toNat].ow = -1:=λf t q hi=>by
 rcases (X.inS.2.2 f t q).1 hi with ⟨k1,I,J⟩ | ⟨k1,I,J,Z⟩
 ·obtain ⟨⟨x,n,p,r,d,s,k,c,g,e⟩,O,Q,A,B⟩:=X.H.snd f t q k1;have u:0<=q:=by obtain ⟨y,i,_,_,D⟩:=k1;exact (X.H.sin y i q D).1
  have v:x∉C:=λL=>I (by
   rw[O]
   exact X.cf.2 ⟨x,L,(ZI X.H.sp.ok (X.H.sp.each x n) s Oo u e).1⟩)
  obtain ⟨y,i,b,E⟩:=X.objOld (Qgy X.S.toStepB n v) s;refine ⟨⟨y,i,p,r,d,b,k,c,g,by rw[e];exact (E k Oo).symm⟩,O,?_⟩;obtain ⟨z,P,j⟩:=X.H.sp.all t.toNat Q B;have w:z∉C:=λL=>J (by
   have:=X.cf.2 ⟨z,L,j⟩
   rwa [show ((t.toNat:Nat):Int)=t by omega]at this)
  obtain ⟨g0,R,S,_,U⟩:=X.same (Qgy X.S.toStepB P w) P j;exact ⟨R,A,by rw[S];exact U⟩
 ·have a:QaX (szS h.space) (ZJ BL C T0 T).flatten q.toNat/\0<=q:=by
   rcases k1 with k1 | k1
   ·obtain ⟨V,_,x,n,v,p,r,d,s,k,c,g,e⟩:=XG X.H X.S.toStepB k1;obtain ⟨y,i,b,E⟩:=X.objOld (Qgy X.S.toStepB n v) s;exact ⟨⟨y,i,p,r,d,b,k,c,g,by rw[e];exact (E k Oo).symm⟩,V⟩
   ·obtain ⟨o,F,k,c,g,rfl⟩:=X.movF.1 k1;obtain ⟨G,H⟩:=X.objNew F;exact ⟨⟨T,G,o.2.1,o.2.2.1,o.2.2.2,H,k,c,g,by rw[Wd]⟩,Oo⟩
  have N:=X.wAt2 a.1;rw[show ((q.toNat:Nat):Int)=q by omega]at N;refine ⟨a.1,J,?_⟩;have m:=X.refs q.toNat a.1;rw[show ((q.toNat:Nat):Int)=q by omega,<- N]at m;rcases m with m | ⟨aa,r,d,F⟩
  ·exact absurd m I.1.1
  ·obtain ⟨G,H⟩:=obj_owned X.sp F (q:=wAt (XL h l) q-1) Oo rfl;obtain ⟨W,Y⟩:=fs_at (show t.toNat=Jn (ZW h l).space (wAt (XL h l) q-1) from by rw[Z,Wd];rfl) G H;exact ⟨W,Oo,Y⟩
theorem StX.cmp(X:StX h BL l C K T0 T M):∀ q,QaX (szS (ZW h l).space) (ZJ BL C T0 T).flatten q->Qby (ZW h l).space (q:Int) (wAt (ZW h l).space (q:Int))->InS (ZW h l).sets (Jn (ZW h l).space (q:Int):Int) (Jn (ZW h l).space (wAt (ZW h l).space (q:Int)-1):Int) (q:Int):=λq s a=>by
 have s:QaX (szS h.space) (ZJ BL C T0 T).flatten q:=s;have J:=X.wAt2 s;have c:Qby (XL h l) (q:Int) (wAt (XL h l) (q:Int)):=by
  rw[J];obtain ⟨⟨B,L,N,D⟩,O,P,E,F,G⟩:=a;have m:∀ k (S:k<(ZW h l).space.fs.length),¬ (ZW h l).space.fs[k].ow = -1->∃ i:k<(XL h l).fs.length,(ZW h l).space.fs[k].ow=(XL h l).fs[k].ow/\(ZW h l).space.fs[k].st=(XL h l).fs[k].st:=λk S I=>by
   have i:k<(XL h l).fs.length:=by rw[X.len2.2,<- X.len3.2];exact S
   have U:¬ isC (XL h l).fs l k=true:=λA=>by obtain ⟨n,j⟩:=Qa3 X.ln A;have:(ZW h l).space.fs[k]=feF:=j;exact I (congrArg Fe.ow this)
   obtain ⟨n,j⟩:=Qcu X.ln i U;have:(ZW h l).space.fs[k]=(XL h l).fs[k]:=j;exact ⟨i,congrArg Fe.ow this,congrArg Fe.st this⟩
  obtain ⟨W,Y,Z⟩:=m _ O E;obtain ⟨q1,q2,q3⟩:=m _ P F;refine ⟨⟨B,by rw[X.len2.1,<- X.len3.1];exact L,N,by rw[X.len2.1,<- X.len3.1];exact D⟩,W,q1,?_,?_,?_⟩
  ·exact λk=>E (Y.trans k)
  ·exact λk=>F (q2.trans k)
  ·exact lt_sub G q3 Z
 have fin:((q:Int)∈QaE h.space h.sets l\/(q:Int)∈Go.Proofs.YthadnbdbfpggdaaGreatDoor.movF (XL h l) (Jb h l).1.mv)->InS (ZW h l).sets (Jn (ZW h l).space (q:Int):Int) (Jn (ZW h l).space (wAt (ZW h l).space (q:Int)-1):Int) (q:Int):=λu=>by refine (X.inS.2.2 _ _ _).2 (.inr ⟨u,c,rfl,?_⟩);rw[J];rfl
 obtain ⟨y,hy,p,r,d,hp,k,n,j,rfl⟩:=s;rcases X.cases hy hp with ⟨x,t,g,ea⟩ | ⟨rfl,o,I,e⟩
 ·rw[ea k Oo]at a fin ⊢;by_cases u:((adr (szS h.space) x.fr (p+k):Nat):Int)∈QaE h.space h.sets l
  ·exact fin (.inl u)
  ·obtain ⟨hv,H⟩:=(X.r_old t g n j).2 u;have f:=(X.old t g (k:=k) Oo).1;have b:QaX (szS h.space) BL.flatten (adr (szS h.space) x.fr (p+k)):=⟨x,f,p,r,d,g,k,n,j,rfl⟩;rw[hv]at a ⊢;have v:=X.H.refs _ b;rcases X.winOf (by rw[X.S.ci];exact H) v with k0 | ⟨hw1,z,hz,p',r',d',hp',ez,hzb⟩
   ·exact absurd k0 a.1.1
   ·obtain ⟨Q,f2⟩:=ZI X.H.sp.ok (X.H.sp.each x f) g (k:=k) Oo (q:=((adr (szS h.space) x.fr (p+k):Nat):Int)) Oo Oo;obtain ⟨R,f4⟩:=ZI X.H.sp.ok (X.H.sp.each z hzb) hp' (k:=0) Oo (q:=wAt h.space ((adr (szS h.space) x.fr (p+k):Nat):Int)-1) Oo ez;obtain ⟨B,L,N,D,a5⟩:=X.same t f Q;obtain ⟨b1,b2,b3,b4,b5⟩:=X.same hz hzb R;obtain ⟨⟨c1,c2,c3,c4⟩,O,P,E,F,G⟩:=a;have w:Qby h.space ((adr (szS h.space) x.fr (p+k):Nat):Int) (wAt h.space ((adr (szS h.space) x.fr (p+k):Nat):Int)):=by refine ⟨⟨c1,by rw[<- X.len3.1];exact c2,c3,by rw[<- X.len3.1];exact c4⟩,B,b1,a5,b5,?_⟩;exact lt_sub G b4 D
    have A:=X.H.cmp _ b w;exact (X.inS.2.2 _ _ _).2 (.inl ⟨A,X.ncf t f Q,X.ncf hz hzb R⟩)
 ·have V:o.2.1=p:=by rw[e]
  have e2:o.2.2.1=r:=by rw[e]
  refine fin (.inr (X.movF.2 ⟨o,I,k,n,Oo,by rw[V]⟩))
theorem clN_words{s:Sp}(a:Zn s){i:Inc}{fr:List Nat}(h:QdX s i fr):fr.length=Qek (szS s) i.words.toNat:=by have c:=h.wd;have b:=XF a;have:=h.len;rw[Qcv a.shp.sh ⟨Oo,Oo⟩]at this;omega
theorem StX.free(X:StX h BL l C K T0 T M):(Qk h.space.fs).length<=(Qk (ZW h l).space.fs).length:=by
 have I:=X.z;obtain ⟨m,G,H⟩:=X.R.inv.fr;have B:=congrArg List.length G;have v:=congrArg List.length H;rw[We,Wf]at B;rw[Wv]at v;have D:=clN_words X.R.inv.ok X.R.inv.inc;rw[X.R.inv.z,X.tq.2.2.1,Wd]at D;have J:=clN_words X.ctx.ok X.ctx.t0.inc;have L:=QgZ (z:=szS h.space) Oo T0.i.words.toNat (szM M);have N:=ceilN_mono (z:=szS h.space) Oo (ev_sum X.ctx.toEvB X.R.inv.src X.R.inv.nd);have O:=ceil_sum X.ctx.ok X.ctx.cs;have P:sumF h.space C=((C.flatMap Itm.fr).length:Int):=by
  have:∀ (C:List Itm),(∀ x∈C,Qa6 h.space x)->sumF h.space C=((C.flatMap Itm.fr).length:Int):=by
   intro C;induction C with
   | nil=>intro _;rfl
   | cons x C ih =>intro d;have w:=ih λy q=>d y (Wp _ q);have E:=(d x (WH ..)).inc.len;unfold sumF at w ⊢;rw[Vj,UW,Yk,We,w,<- E];push_cast;rfl
  exact this C X.ctx.cs
 have o:(Qk (Jb h l).1.s.fs++C.flatMap Itm.fr).Nodup:=by
  rw[Uq];refine ⟨(List.nodup_range).filter _,?_,λa ha b r=>?_⟩
  ·rw[Vd,List.pairwise_flatMap];refine ⟨λx t=>Vd.1 (X.ctx.cs x t).inc.nd,?_⟩;have A:=X.tgt.nodup;rw[<- X.S.ci,Va,Vd,Vs]at A;refine A.imp_of_mem λ{a b} ha r u x t y q e=>?_;subst e;exact (X.ctx.cs a ha).inc.toIncC.disj (X.ctx.cs b r).inc.toIncC u x t q
  ·rintro rfl;obtain ⟨c,d,f⟩:=UP.1 r;obtain ⟨g,j⟩:=Qc1 ha;exact (X.R.inv.oth c (Wg _ d)).own a f g j
 have i:=sub_len _ (Qk (ZW h l).space.fs) o λa ha=>by
  have p:∃ hk:a<(ZW h l).space.fs.length,(ZW h l).space.fs[a].ow = -1:=by
   rcases Wk.1 ha with ha | ha
   ·obtain ⟨g,j⟩:=Qc1 ha;by_cases d:isC (XL h l).fs l a=true
    ·obtain ⟨k,n⟩:=Qa3 X.ln d;exact ⟨k,congrArg Fe.ow (show (ZW h l).space.fs[a]=feF from n)⟩
    ·obtain ⟨k,n⟩:=Qcu (s:=XL h l) X.ln g d;exact ⟨k,(congrArg Fe.ow (show (ZW h l).space.fs[a]=(XL h l).fs[a] from n)).trans j⟩
   ·obtain ⟨c,d,f⟩:=UP.1 ha;obtain ⟨k,n⟩:=Qa3 X.ln (X.isC2.2 ⟨c,d,f⟩);exact ⟨k,congrArg Fe.ow (show (ZW h l).space.fs[a]=feF from n)⟩
  obtain ⟨g,j⟩:=p;unfold Qk;rw[WX,WE];exact ⟨g,by rw[Qcq g,j];rfl⟩
 rw[We]at i;have F:(Qk (Jb h l).1.s.fs).length=(Qk h.space.fs).length-m:=v;omega
theorem StX.inv(X:StX h BL l C K T0 T M):QQ (ZW h l) (ZJ BL C T0 T):=by
 have s:=X.tq;obtain ⟨z,A⟩:=X.belts;have H:=X.q;obtain ⟨r1,r2⟩:=X.roots;obtain ⟨D,E,_⟩:=X.inS;have t:(ZJ BL C T0 T).length=BL.length:=by
  have:=congrArg List.length z;unfold ZJ;split
  ·rw[Wb,J2]
  ·split
   ·rw[Yg,J2]
   ·exact J2 _ _
 have u:∀ x∈K,x.i.seq<h.seq:=λx hx=>X.H.sq x (X.kb hx).1;refine ⟨X.H.cfg,z,t.trans X.H.bn,X.sp,λx hx=>?_,?_,?_,λx hx=>?_,?_,r1,r2,X.refs,D,E,X.snd,X.cmp,λG=>?_⟩
 ·rcases X.mem.1 hx with k | ⟨rfl,k⟩
  ·exact X.H.pos x (X.kb k).1
  ·omega
 ·intro b o x hx;have f:b<BL.length:=by rw[<- t];exact o
  have c:∀ (d:b<(Jr BL C).length),∀ y∈(Jr BL C)[b],y∈BL[b]:=λd y j=>by
   have:(Jr BL C)[b]?=some (BL[b].filter λx=>bP (x∉C)):=by unfold Jr;rw[Wh,Wa f];rfl
   rw[Wa d]at this;injection this with this;rw[this]at j;exact (WX.1 j).1
  have a:(ZJ BL C T0 T)[b]?=some (ZJ BL C T0 T)[b]:=Wa o;generalize hq':(ZJ BL C T0 T)[b]=q at hx a;unfold ZJ at a;have d:b<(Jr BL C).length:=by rw[J2];exact f
  split at a
  ·rw[Wh,Wa d,Wx]at a;injection a with a;rw[<- a]at hx;obtain ⟨y,j,rfl⟩:=Wm.1 hx;have:=X.H.blt b f y (c d y j);unfold QdD;split
   ·rename_i e;rw[s.2.1,<- e];exact this
   ·exact this
  ·split at a
   ·rw[Vf,Wa d]at a;simp only[VZ,Wx]at a;injection a with a;rw[<- a]at hx;split at hx
    ·rename_i e;rcases Wk.1 hx with hx | hx
     ·exact X.H.blt b f x (c d x hx)
     ·rw[Wn.1 hx,s.2.1];have:=X.S.tb;omega
    ·exact X.H.blt b f x (c d x hx)
   ·rw[Wa d]at a;injection a with a;rw[<- a]at hx;exact X.H.blt b f x (c d x hx)
 ·intro q g;have c:∀ p∈Jr BL C,p.Pairwise (λx y=>x.i.seq<y.i.seq)/\∀ y∈p,y∈BL.flatten/\y∉C:=λp i=>by unfold Jr at i;obtain ⟨B,w,rfl⟩:=Wm.1 i;refine ⟨(X.H.asc B w).filter _,λy j=>?_⟩;have:=WX.1 j;exact ⟨Vu.2 ⟨B,w,this.1⟩,QI.1 this.2⟩
  unfold ZJ at g;split at g
  ·obtain ⟨p,i,rfl⟩:=Wm.1 g;rw[Vs];have v:∀ x,(QdD T0 T x).i.seq=x.i.seq:=λx=>by
    unfold QdD;split
    ·rename_i e;rw[e,s.1]
    ·rfl
   exact (c p i).1.imp λk=>by rw[v,v];exact k
  ·rename_i r;split at g
   ·obtain ⟨n,m⟩:=W8.1 g;rw[Vf]at m;cases o:(Jr BL C)[n]? with
    | none=>rw[o]at m;cases m
    | some p =>
     rw[o]at m;simp only[VZ,Wx]at m;injection m with m;have i:=c p (Wq o);rw[<- m];split
     ·rw[Ve];refine ⟨i.1,UQ _ _,λx hx y j=>?_⟩;rw[Wn.1 j,s.1];rcases X.S.tin with k | ⟨b,e⟩
      ·exact absurd k.1 r
      ·rw[e];exact X.H.sq x (i.2 x hx).1
     ·exact i.1
   ·exact (c q g).1
 ·rw[A];rcases X.mem.1 hx with k | ⟨rfl,F⟩
  ·have:=u x k;split <;> omega
  ·rw[s.1];by_cases r:T0∈BL.flatten
   ·rw[if_pos (.inl r)];exact X.H.sq T0 r
   ·rw[if_neg (by rintro (k | k);exact r k;exact k F)];rcases X.S.tin with k | ⟨b,e⟩
    ·exact absurd k.1 r
    ·rw[e];show h.seq<h.seq+1;omega
 ·rw[A];have:=X.H.sq0;split <;> omega
 ·have I:=X.H.resv G;have J:=X.free;have L:=X.len3.2;omega
end
theorem pair_c{s:Sp}(a:Zn s){p w:Int}(g:0<=w/\w<=18446744073709551615):JA s p w=some (open Classical in if ¬ w=0/\w<=s.ws.length/\0<=p/\p<s.ws.length then((Jn s p:Int),(Jn s (w-1):Int),true) else(0,0,false)):=by have c:=XF a;refine Gd.eq ?_;unfold JA;rw[Xg (n:=(s.ws.length:Int)) Oo];refine .ite (λh=>.some (by rw[if_neg λk=>k.1 h])) λb=>?_;refine .ite (λh=>.some (by rw[if_neg λk=>by omega])) λd=>?_;refine .ite (λh=>.some (by rw[if_neg λk=>by omega])) λe=>?_;refine .ite (λh=>.some (by rw[if_neg λk=>by omega])) λf=>?_;refine .pos (Qfn a.shp.sh) (.some ?_);rw[if_pos ⟨b,Oo,Oo,Oo⟩,Xg (n:=w-1) Oo,Qb (n:=w-1) Oo,Qgn a.shp.sh p.toNat Oo,Qgn a.shp.sh (w-1).toNat Oo];rfl
theorem needs_c{s:Sp}(b:Zn s){p w:Int}(i:0<=w/\w<=18446744073709551615):Ja s p w=some (bP (Qby s p w)):=by
 refine Gd.eq ?_;unfold Ja;refine .call (pair_c b i) ?_;by_cases h:¬ w=0/\w<=s.ws.length/\0<=p/\p<s.ws.length
 ·have c:=QeW b (a:=p) Oo Oo;have d:=QeW b (a:=w-1) Oo Oo;rw[if_pos h];dsimp only;refine .pos rfl ?_;refine .atN c ?_;refine .ite (λk=>.f λ⟨_,_,_,q,_⟩=>q k) λe=>?_;refine .atN d ?_;refine .ite (λk=>.f λ⟨_,_,_,_,q,_⟩=>q k) λf=>?_;exact .b (by rw[decide_eq_true_iff];exact ⟨λg=>⟨h,c,d,e,f,g⟩,λ⟨_,_,_,_,_,q⟩=>q⟩)
 ·rw[if_neg h];exact .neg Od (.f λk=>h k.1)
theorem mask_c{n:Nat}(h:n<=64):Qbu (n:Int)=some (((2^n-1:Nat):Int)):=by unfold Qbu;rw[if_neg Oo,Xg Oo,if_pos Oo];unfold xorN Qbv;rw[Wd,show IntKind.u64.bits=64 from rfl,W5 h,mask1 h];exact congrArg some (mask2 h)
theorem bget_c{w:Int}(a:U64 w){i n:Nat}(h:i+n<=64):XD w (i:Int) (n:Int)=some (w/2^i%2^n,0):=by
 unfold U64 at a;have b:QaV (i:Int) (n:Int)=some true:=by unfold QaV;rw[if_pos Oo,if_pos Oo,if_pos Oo,Qb Oo];congr 1;exact decide_eq_true Oo
 unfold XD;rw[b,WB,if_pos rfl,Xg Oo,if_pos Oo,mask_c Oo,WB,shru a Oo];obtain ⟨m,rfl⟩:∃ m:Nat,w=m:=⟨w.toNat,Oo⟩;have e:(m:Int)/2^i=((m/2^i:Nat):Int):=by push_cast;rfl
 have c:m/2^i<=m:=Nat.div_le_self _ _;rw[e,and_mask Oo Oo];push_cast;rfl
theorem hdec_c{w:Int}(l:U64 w):X7 w=some ((JW w).r,(JW w).d,(JW w).a,(JW w).mv,(JW w).e):=by
 have b:=l;unfold U64 at l;have o:bits BinOp.and IntKind.u64 w 1=w%2:=by obtain ⟨m,rfl⟩:∃ m:Nat,w=m:=⟨w.toNat,Oo⟩;have:=and_mask (a:=m) (n:=1) Oo Oo;rw[show ((2^1-1:Nat):Int)=1 from rfl]at this;rw[this];push_cast;rfl
 have c:=bget_c b (i:=1) (n:=63) Oo;have d:=bget_c b (i:=1) (n:=7) Oo;have e:=bget_c b (i:=8) (n:=56) Oo;have j:(2:Int)^63=9223372036854775808:=by decide
 have p:(2:Int)^7=128:=by decide
 have q:(2:Int)^8=256:=by decide
 have k:(2:Int)^56=72057594037927936:=by decide
 rw[j]at c;rw[p]at d;rw[q,k]at e;have c:XD w 1 63=some (w/2,0):=c.trans (by congr 2;omega);have d:XD w 1 7=some (w%256/2,0):=d.trans (by congr 2;omega);have e:XD w 8 56=some (w/256,0):=e.trans (by congr 2;omega);refine Gd.eq ?_;unfold X7 JW;rw[o];by_cases f:w%2=1
 ·rw[if_pos f,if_pos f];refine .call c ?_;refine .ite (λg=>.some (by rw[if_pos (show 16384<=w/2 from by dsimp only at g;omega)])) λg=>.some (by rw[if_neg (show ¬ 16384<=w/2 from by dsimp only at g;omega),Qb (by dsimp only;omega)])
 ·rw[if_neg f,if_neg f];refine .call d (.call e ?_);dsimp only;rw[Xg (n:=1+w%256/2) Oo,Xg (n:=1+w%256/2+32) Oo];by_cases h:w%256/2<=15/\1+w%256/2<=w/256/\w/256<=33+w%256/2
  ·rw[if_pos h,if_neg Oo,if_neg Oo,if_neg Oo,Xg (n:=w/256-1) Oo,Xg (n:=w/256-1-w%256/2) Oo,Qb (n:=w%256/2) Oo,Qb (n:=w/256-1-w%256/2) Oo];exact .some rfl
  ·rw[if_neg h];refine .ite (λ_=>.some rfl) λg=>?_;refine .ite (λ_=>.some rfl) λr=>?_;refine .ite (λ_=>.some rfl) λs=>?_;omega
theorem fsize_c{s:Sp}(a:QcQ s.sh):JV s=some (szS s:Int):=by unfold JV;rw[shift_c,WB,if_pos (Qa5 a),if_pos (Qfn a),sh_1 a]
theorem step_c{s:Sp}(g:Zn s)(B:SpW s){a k:Int}(A:I64 a)(C:I64 k):X9 s a k=some (GoR s a k):=by
 have b:=g.shp;have o:=Q2 g.fm;obtain ⟨E,G,H,v,I⟩:=b.z;have p:=b.small;unfold I64 at A C;refine Gd.eq ?_;unfold X9;refine .call (valid_c s B) (.pos (Qa5 g) ?_);refine .ite (λh=>.some (Qe3 (.inl h)).symm) λJ=>?_;refine .ite (λh=>.some (Qe3 (.inr (.inl h))).symm) λK=>?_;refine .ite (λh=>.some (Qe3 (.inr (.inr h))).symm) λL=>?_;refine .pos (Qfn b.sh) (.call (fsize_c b.sh) (.call (fsize_c b.sh) ?_));rw[GoR_in Oo Oo Oo];obtain ⟨F,w,d⟩:=Qgh b (a:=a) Oo Oo;have q:=V4 a (by omega:(szS s:Int)≠0);have t:=V6 a (by omega:(0:Int)<szS s);rw[Qgn b.sh a.toNat Oo,Qb (n:=(szS s:Int)-1) Oo,sh_a b.sh Oo Oo,w,show a.toNat/szS s=F by
  have:((a.toNat/szS s:Nat):Int)=a/szS s:=by rw[Uv,Vl Oo]
  omega]
 have c:QaU s (F:Int)=some (decide (s.fs[F].ow = -1)):=by refine Gd.eq ?_;unfold QaU;exact .atN d (.some rfl)
 refine .call c ?_;rw[ownF_at d];refine .ite (λh=>.some (by rw[if_pos (by simpa using h)])) λy=>?_;rw[if_neg (by simpa using y)];refine .ite (λh=>.some (adv_end g d Oo).symm) λM=>?_;rw[Qb (n:=a%szS s+k) Oo];refine Gd.bndR (P:=λz=>(z = .inl ()/\adv s F (a%szS s+k)=(0,2))\/z = .inr (adv s F (a%szS s+k))) ?_ (λz j=>?_) (λr j=>?_)
 ·refine Gd.loop (λx:Int×Int=>-1<=x.1/\x.1<s.fs.length/\0<=x.2/\x.2<=100000/\adv s F (a%szS s+k)=adv s x.1 x.2) _ (λx=>x.2.toNat) ⟨by dsimp only;omega,by dsimp only;omega,by dsimp only;omega,by dsimp only;omega,rfl⟩ ?_;rintro ⟨f,n⟩ ⟨i1,i2,i3,i4,i5⟩;dsimp only at i1 i2 i3 i4 i5 ⊢;refine .ite (λe=>?_) λe=>.out (.inl ⟨rfl,by rw[i5];exact adv_neg Oo⟩);refine .ite (λm=>.out (.inr ?_)) λm=>?_
  ·rw[i5,adv_lt e i3 m,Qgo b.sh f.toNat Oo (by have:=b.hi;omega)];have u:f.toNat*szS s<=64*256:=VP (by have:=b.hi;omega) v;have i:((f.toNat*szS s:Nat):Int)=f*szS s:=by push_cast;rw[Vl e]
   rw[i,Qb (n:=f*szS s+n) Oo]
  ·refine .at e Oo ?_;have D:=o f.toNat Oo;have l:=adv_ge (s:=s) (f:=f) (n:=n) Oo Oo;rw[nxF_z e Oo]at l;rw[Qb (n:=n-(szS s:Int)) Oo];exact .go ⟨by dsimp only;omega,by dsimp only;omega,by dsimp only;omega,by dsimp only;omega,by dsimp only;rw[i5,l]⟩ (by dsimp only;omega)
 ·rcases j with ⟨_,h⟩ | h
  ·exact .some h.symm
  ·cases h
 ·rcases j with ⟨h,_⟩ | h
  ·cases h
  ·injection h with h
theorem oread_c{s:Sp}(j:Zn s)(g:SpW s){a:Int}(k:I64 a):Qal s a=some (if (Qy s a).e=0 then(⟨s,a,(Qy s a).r,(Qy s a).d⟩,0) else(⟨⟨0,[],[]⟩,0,0,0⟩,(Qy s a).e)):=by
 refine Gd.eq ?_;unfold Qal;refine .call (step_c j g k (by unfold I64;omega)) ?_;refine .ite (λb=>?_) λb=>.some (by
  have e:Qy s a=⟨0,0,(GoR s a 0).2⟩:=by unfold Qy;rw[if_pos b]
  rw[e,if_neg (show ¬ (GoR s a 0).2=0 from b)])
 obtain ⟨i,m,_⟩:=GoR_e b;have h:U64 (wAt s a):=Qfo g a;refine .at i Oo ?_;rw[<- QcC i Oo];refine .call (hdec_c h) ?_;dsimp only;refine .ite (λc=>?_) λc=>.some (by
  have e:Qy s a=⟨0,0,12⟩:=by unfold Qy;rw[if_neg (by simp[b]),if_pos (.inl c)]
  rw[e];rfl)
 refine .ite (λd=>.some (by
  have e:Qy s a=⟨0,0,12⟩:=by unfold Qy;rw[if_neg (by simp[b]),if_pos (.inr d)]
  rw[e];rfl)) λd=>?_
 have l:=DecR_rng h;rw[Qb (n:=(JW (wAt s a)).r+(JW (wAt s a)).d) Oo];refine .call (step_c j g k (by unfold I64;omega)) ?_;refine .ite (λf=>.some (by
  have e:Qy s a=⟨(JW (wAt s a)).r,(JW (wAt s a)).d,0⟩:=by unfold Qy;rw[if_neg (by simp[b]),if_neg (by simp[c,d]),if_neg (by simp[f])]
  rw[e];rfl)) λf=>.some (by
  have e:Qy s a=⟨0,0,2⟩:=by unfold Qy;rw[if_neg (by simp[b]),if_neg (by simp[c,d]),if_pos f]
  rw[e];rfl)
theorem slots_c{s:Sp}(d:Zn s)(f:SpW s){a:Int}(g:I64 a):Jw s a=some (QbX s a):=by
 have l:=d.shp;have m:=Q2 d.fm;refine Gd.eq ?_;unfold Jw QbX;refine .call (oread_c d f g) ?_;by_cases c:(Qy s a).e=0
 ·rw[if_pos c,if_pos c];obtain ⟨i,o⟩:=Qf5 f c;unfold QeG at i;refine .pos rfl ?_;refine Gd.bind (P:=λb=>b=fldL s a (Qy s a).r.toNat) ?_ λb k=>.some (by rw[k]);refine Gd.loop (λx:List Int×Int=>∃ j:Nat,x=(fldL s a j,(j:Int))/\j<=(Qy s a).r.toNat) _ (λx=>(Qy s a).r.toNat-x.2.toNat) ⟨0,rfl,WO _⟩ ?_;rintro x ⟨j,rfl,hj⟩;dsimp only;refine .ite (λe=>?_) λe=>.out (by rw[show j=(Qy s a).r.toNat by omega]);rw[Qb (n:=1+(j:Int)) Oo,Qb (n:=(j:Int)+1) Oo];have h:Zd ⟨s,a,(Qy s a).r,(Qy s a).d⟩ (1+(j:Int))=some (GoR s a (1+(j:Int))).1:=by refine Gd.eq ?_;unfold Zd;exact .call (step_c d f g (by unfold I64;omega)) (.some rfl)
  refine .call h (.pos (by rw[fldL_len,WJ];omega) ?_);exact .go ⟨j+1,by rw[fldL_succ];rfl,Oo⟩ (by dsimp only;omega)
 ·rw[if_neg c,if_neg c];exact .neg c (.some rfl)
theorem index_c(l:List Int)(v:Int)(g:l.length<=9223372036854775806):ZN l v=some (match l.findIdx? (λx=>x == v) with | some i=>(i:Int) | none=>-1):=by
 refine Gd.eq ?_;unfold ZN;refine Gd.bndR (P:=λz=>(z = .inl ()/\l.findIdx? (λx=>x == v)=none)\/∃ i:Nat,z = .inr (i:Int)/\l.findIdx? (λx=>x == v)=some i) ?_ (λz a=>?_) (λr a=>?_)
 ·refine Gd.find l (λx=>x=v) g (λi c b=>?_) (λb=>.inl ⟨rfl,?_⟩)
  ·refine .atN c (.ite (λk=>.some (.inr ⟨?_,_,rfl,.inr ⟨i,rfl,?_⟩⟩)) λk=>.some (.inl ⟨λq=>k q.symm,rfl⟩))
   ·exact k.symm
   ·rw[Yi];refine ⟨c,by simp[show l[i]=v from k.symm],λj f=>?_⟩;have:=b j Oo f;simpa using this
  ·rw[YF];intro x e;have:=b x e;simpa using this
 ·rcases a with ⟨_,h⟩ | ⟨i,h,_⟩
  ·rw[h];exact .some rfl
  ·cases h
 ·rcases a with ⟨h,_⟩ | ⟨i,h,d⟩
  ·cases h
  ·injection h with h;rw[d,h]
theorem cont_c(l:List Int)(v:Int)(d:l.length<=9223372036854775806):QM l v=some (decide (v∈l)):=by
 refine Gd.eq ?_;unfold QM;refine .call (index_c l v d) (.some ?_);cases h:l.findIdx? (λx=>x == v) with
 | none =>
  rw[YF]at h;have:¬ v∈l:=λc=>by have:=h v c;simp at this
  simp[this]
 | some i =>
  rw[Yi]at h;obtain ⟨a,b,_⟩:=h;have e:l[i]=v:=by simpa using b
  have:v∈l:=e▸Wc a;simp[this]
theorem drop1_c(x:Qe)(fs:List Int)(a:fs.length<=9223372036854775806):Z7 x fs=some (!(!decide (x.frm∈fs) && !decide (x.to∈fs)),fs):=by
 refine Gd.eq ?_;unfold Z7;refine .call (cont_c _ _ a) ?_;refine .ite (λh=>.some ?_) λh=>.call (cont_c _ _ a) (.some ?_)
 ·have h:x.frm∈fs:=of_decide_eq_true h;simp[h]
 ·have h:¬ x.frm∈fs:=λk=>h (decide_eq_true k);simp[h]
def kpS(fs:List Int)(x:Qe):Bool:=!decide (x.frm∈fs) && !decide (x.to∈fs)
theorem clone1_c(l:List Qe)(g:l.length<=1000000)(e:∀ x∈l,x.slots.length<=4294967296):Jz l=some l:=by
 refine Gd.eq ?_;unfold Jz;refine Gd.bind (P:=λb=>b=l) ?_ λb d=>.some d;refine Gd.loop (λx:List Qe×Int=>∃ k:Nat,x=(l.take k,(k:Int))/\k<=l.length) _ (λx=>l.length-x.2.toNat) ⟨0,rfl,WO _⟩ ?_;rintro x ⟨k,rfl,hk⟩;dsimp only;refine .ite (λa=>?_) λa=>.out (WD Oo);have a:k<l.length:=by omega
 have f:=e _ (Wc a);refine .atN a ?_;refine .pos ⟨Oo,Oo⟩ ?_;rw[Wf];refine .pos ⟨Oo,Oo⟩ ?_;have c:w64 ((k:Int)+1)=((k+1:Nat):Int):=Qb Oo;rw[c];exact .go ⟨k+1,by rw[Vb a],a⟩ (by dsimp only;omega)
theorem idxf_c(l:List Qe)(fs:List Int)(p:l.length<=1000000)(o:fs.length<=9223372036854775806):∃ i:Int,QA l fs=some (i,l,fs)/\((i = -1/\∀ x∈l,kpS fs x=true)\/∃ k:Nat,i=(k:Int)/\∃ h:k<l.length,kpS fs l[k]=false/\∀ j (h:j<l.length),j<k->kpS fs l[j]=true):=by
 have:Gd (λr:Int×List Qe×List Int=>r.2=(l,fs)/\((r.1 = -1/\∀ x∈l,kpS fs x=true)\/∃ k:Nat,r.1=(k:Int)/\∃ h:k<l.length,kpS fs l[k]=false/\∀ j (h:j<l.length),j<k->kpS fs l[j]=true)) (QA l fs):=by
  unfold QA;refine Gd.bndR (P:=λz=>(z = .inl fs/\∀ x∈l,kpS fs x=true)\/∃ k:Nat,z = .inr ((k:Int),l,fs)/\∃ h:k<l.length,kpS fs l[k]=false/\∀ j (h:j<l.length),j<k->kpS fs l[j]=true) ?_ (λz d=>?_) (λr d=>?_)
  ·refine Gd.for l.length (λ(t:List Int) i=>(t,i)) (λi t=>t=fs/\∀ j (h:j<l.length),j<i->kpS fs l[j]=true) fs rfl (λ_ _=>rfl) Oo ⟨rfl,λj _ h=>absurd h (WT _)⟩ (λi g t c=>?_) (λt c=>?_)
   ·obtain ⟨rfl,a⟩:=c;refine .atN g (.call (drop1_c _ _ o) ?_);refine .ite (λk=>.some (.inr ⟨_,rfl,.inr ⟨i,rfl,g,?_,a⟩⟩)) λk=>.some (.inl ⟨t,rfl,rfl,λj b m=>?_⟩)
    ·have k:(!kpS t l[i])=true:=k;simpa using k
    ·have k:¬ (!kpS t l[i])=true:=k;rcases Ws j i with h | h
     ·exact a j b h
     ·have:j=i:=by omega
      subst this;simpa using k
   ·refine .inl ⟨by rw[c.1],λx n=>?_⟩;obtain ⟨j,b,rfl⟩:=WL.1 n;exact c.2 j b b
  ·rcases d with ⟨h,a⟩ | ⟨k,h,_⟩
   ·injection h with h;subst h;exact .some ⟨rfl,.inl ⟨rfl,a⟩⟩
   ·cases h
  ·rcases d with ⟨h,_⟩ | ⟨k,h,a⟩
   ·cases h
   ·injection h with h;subst h;exact ⟨rfl,.inr ⟨k,rfl,a⟩⟩
 obtain ⟨⟨i,r⟩,e,f,a⟩:=this;dsimp only at f;subst f;exact ⟨i,e,a⟩
theorem take_set_snoc{α:Type}{l:List α}{i:Nat}(h:i<l.length)(x:α):(l.set i x).take (i+1)=l.take i++[x]:=by rw[Vb (by rw[Ww];exact h),Ui,List.take_set_of_le (Wl _)]
theorem drop_c{l:List Qe}(r:Qg3 l)(fs:List Int)(q:fs.length<=9223372036854775806):J4 l fs=some (Qat l fs):=by
 have s:=r.1;refine Gd.eq ?_;unfold J4;refine .call (clone1_c l Oo λx m=>by have:=r.2 x m;omega) ?_;have t:QU l fs=some (Qat l fs,fs):=by
  obtain ⟨i,e,w⟩:=idxf_c l fs Oo q;refine Gd.eq ?_;unfold QU;refine .call e (.pos rfl ?_);rcases w with ⟨rfl,h⟩ | ⟨k,rfl,p,B,C⟩
  ·refine .pos rfl (.some ?_);have:Qat l fs=l:=VI.2 λx m=>h x m;rw[this]
  ·refine .neg (by show ¬ (k:Int) = -1;omega) ?_;refine Gd.bind (P:=λb:List Int×List Qe×Int=>b.1=fs/\b.2.1.length=l.length/\∃ i:Nat,b.2.2=(i:Int)/\i<=l.length/\b.2.1.take i=Qat l fs) ?_ λb D=>?_
   ·rw[show w64 ((k:Int)+1)=((k+1:Nat):Int) from Qb Oo];refine Gd.loop (λx:List Int×List Qe×Int×Int=>x.1=fs/\x.2.1.length=l.length/\∃ i j:Nat,x.2.2.1=(i:Int)/\x.2.2.2=(j:Int)/\i<j/\j<=l.length/\x.2.1.take i=(l.take j).filter (kpS fs)/\x.2.1.drop j=l.drop j) _ (λx=>l.length-x.2.2.2.toNat) ⟨rfl,rfl,k,k+1,rfl,rfl,Oo,p,?_,rfl⟩ ?_
    ·rw[Vb p,W4];have u:[l[k]].filter (kpS fs)=[]:=by simp[B]
     rw[u,W6];symm;apply VI.2;intro x m;obtain ⟨j,d,rfl⟩:=WL.1 m;rw[Wf]at d;rw[UF];exact C j Oo Oo
    ·rintro ⟨f,L,a,b⟩ ⟨i1,i2,i,j,i3,i4,i5,i6,i7,i8⟩;dsimp only at i1 i2 i3 i4 i7 i8 ⊢;subst i1 i3 i4;refine .ite (λo=>?_) λo=>.out ⟨rfl,i2,i,rfl,Oo,?_⟩
     ·have d:j<l.length:=by omega
      have g:j<L.length:=by omega
      have v:L[j]=l[j]:=by have:=congrArg (λl=>l[0]?) i8;simp only[WW,Vz]at this;rw[Wa g,Wa d]at this;exact VC this
      refine .atN g (.call (drop1_c _ _ q) ?_);rw[v,Qb (n:=(j:Int)+1) Oo];refine .ite (λc=>?_) λc=>?_
      ·have c:(!kpS f l[j])=true:=c;refine .go ⟨rfl,i2,i,j+1,rfl,by push_cast;rfl,Oo,Oo,?_,?_⟩ (by dsimp only;omega)
       ·rw[i7,Vb d,W4];have:[l[j]].filter (kpS f)=[]:=by simpa using c
        rw[this,W6]
       ·have:=congrArg (List.drop 1) i8;rw[UO,UO]at this;exact this
      ·have c:¬ (!kpS f l[j])=true:=c;refine .atN (show i<L.length by omega) ?_;rw[Qb (n:=(i:Int)+1) Oo];refine .go ⟨rfl,by rw[Ww];exact i2,i+1,j+1,by push_cast;rfl,by push_cast;rfl,Oo,Oo,?_,?_⟩ (by dsimp only;omega)
       ·dsimp only;rw[Wd,take_set_snoc Oo,i7,Vb d,W4];have:[l[j]].filter (kpS f)=[l[j]]:=by simpa using c
        rw[this]
       ·dsimp only;rw[Wd,List.drop_set_of_lt Oo];have:=congrArg (List.drop 1) i8;rw[UO,UO]at this;exact this
     ·have:j=l.length:=by omega
      rw[this,WQ]at i7;exact i7
   ·obtain ⟨y,E,i,z,F,A⟩:=D;rw[z];refine .pos ⟨Oo,Oo⟩ (.pos ⟨Oo,?_⟩ (.some ?_))
    ·rw[We,Wf,W2,Wd];omega
    ·rw[Wd,WU (by rw[Wf];omega),U4,Wab,A,y]
 exact .call t (.some rfl)
theorem copy3_eq(h:Hp):Js h=(QG h).map λr=>(r,h.space.ws,h.space.fs):=by unfold Js QG;simp only[map_ite',UC,Function.comp_def,Wx,Option.map_none]
theorem do3_eq(h:Hp)(l:List Inc):QaM h l=(Qaw h l).map λr=>(r.1,r.2.1,r.2.2,h.space.ws,h.space.fs):=by unfold QaM Qaw;simp only[copy3_eq,Yb,UC,Function.comp_def,map_ite',Wx,Option.map_none,if_true]
theorem rnd3_eq(h:Hp)(n:Int):Xa h n=ZP h n:=by unfold Xa ZP;simp only[do3_eq,Yb,Function.comp_def,if_true]
theorem full2_eq(h:Hp):Xx h=XU h:=by unfold Xx XU;rw[rnd3_eq]
theorem for2_eq(h:Hp)(n:Int):ZQ h n=QcA h n:=by unfold ZQ QcA;rw[rnd3_eq]
def usdF(s:Sp):Int:=(s.fs.length:Int)-(Qk s.fs).length
def GrnP(c:Cfg)(s:Sp)(B:List (List Inc))(i:Inc)(n:Int):Prop := clN s (i.words+n)-clN s i.words=0\/(usdF s+(clN s (i.words+n)-clN s i.words)<=s.fs.length/\(CplP c->2*(usdF s+(clN s (i.words+n)-clN s i.words))<=s.fs.length) /\ (¬ CplP c->max (largF s B.flatten) (clN s i.words+(clN s (i.words+n)-clN s i.words))<=s.fs.length-(usdF s+(clN s (i.words+n)-clN s i.words))))
theorem larg_rng{s:Sp}(a:QcQ s.sh):∀ (l:List Inc) (n:Int),0<=n/\n<=1099511627776->0<=l.foldl (λ(n:Int) x=>max n (clN s x.words)) n/\l.foldl (λ(n:Int) x=>max n (clN s x.words)) n<=1099511627776
 | [],n,h=>h
 | x :: l,n,h=>by rw[V2];have:=QdR a x.words;exact larg_rng a l _ Oo
theorem grants_c{c:Cfg}(j:QeE c){s:Sp}(a:Qdx s){B:List (List Inc)}(g:BSz B)(f:WdIn B){i:Inc}(u:0<=i.words/\i.words<=16384){n:Int}(v:1<=n/\n<=1000):Ju c s B i n=some (bP (GrnP c s B i n)):=by
 have d:=a.hi;have l:=QdR a.sh (i.words+n);have m:=QdR a.sh i.words;have e:=free_le s.fs;refine Gd.eq ?_;unfold Ju;refine .call (extra_c a.sh (by unfold I64;omega) (by unfold I64;omega)) ?_;refine .ite (λh=>.t (.inl h)) λb=>?_;refine .call (used_c Oo) ?_;have o:0<=usdF s/\usdF s<=64:=by unfold usdF;omega
 show Gd _ (if (s.fs.length:Int)<w64 (usdF s+_) then _ else _);rw[Qb (n:=usdF s+(clN s (i.words+n)-clN s i.words)) Oo];refine .ite (λh=>.f λk=>?_) λt=>?_
 ·rcases k with k | k
  ·exact b k
  ·omega
 refine .call (Qdv j) ?_;refine .ite (λh=>?_) λh=>?_
 ·have h:=QI.1 h;refine .b (p:=GrnP c s B i n) ?_;rw[show (w64 (2*w64 ((s.fs.length:Int)-(Qk s.fs).length+(clN s (i.words+n)-clN s i.words))):Int)=2*(usdF s+(clN s (i.words+n)-clN s i.words)) from by
   rw[show (s.fs.length:Int)-(Qk s.fs).length=usdF s from rfl,Qb (n:=usdF s+(clN s (i.words+n)-clN s i.words)) Oo,Qb Oo],decide_eq_true_iff]
  exact ⟨λk=>.inr ⟨Oo,λ_=>k,λq=>absurd h q⟩,λk=>k.elim (λk=>absurd k b) λk=>k.2.1 h⟩
 ·have h:¬ CplP c:=λk=>h (Qa5 k);have r:=larg_rng a.sh B.flatten 0 Oo;refine .call (largest_c a.sh g f) (.call (Qb2 a.sh (by unfold I64;omega)) (.b (p:=GrnP c s B i n) ?_));rw[show (w64 ((s.fs.length:Int)-w64 ((s.fs.length:Int)-(Qk s.fs).length+(clN s (i.words+n)-clN s i.words))):Int)=s.fs.length-(usdF s+(clN s (i.words+n)-clN s i.words)) from by
   rw[show (s.fs.length:Int)-(Qk s.fs).length=usdF s from rfl,Qb (n:=usdF s+(clN s (i.words+n)-clN s i.words)) Oo,Qb Oo],Qb (n:=clN s i.words+(clN s (i.words+n)-clN s i.words)) Oo,decide_eq_true_iff]
  exact ⟨λk=>.inr ⟨Oo,λq=>absurd q h,λ_=>k⟩,λk=>k.elim (λk=>absurd k b) λk=>k.2.2 h⟩
def candR(h:Hp):Option (Int×Inc) :=
 let nw:Option (Int×Inc):=if ((h.config.rules[0]?).map Rul.limit).getD 0=0\/((((h.belts[0]?).getD []).length:Nat):Int)<((h.config.rules[0]?).map Rul.limit).getD 0 then some (2,⟨h.seq,0,-1,-1,0⟩) else none
 match yngR h.belts 0 with
 | none=>nw
 | some y=>if capV h.config 0 h.space.fs.length=0\/y.words<w64 (capV h.config 0 h.space.fs.length*(szS h.space:Int)) then some (1,y) else nw
def XE(h:Hp)(n:Int):Int×Inc:=open Classical in
 match candR h with
 | none=>(3,inc0)
 | some (k,i)=>if GrnP h.config h.space h.belts i n then(k,i) else(3,inc0)
section
variable{h:Hp}{BL:List (List Itm)}
theorem QQ.b0(H:QQ h BL):0<h.belts.length/\0<h.config.rules.length:=by have:=H.cfg.len;have:=H.bn;rw[H.bl,Wb];omega
theorem candR_in(H:QQ h BL){k:Int}{i:Inc}(a:candR h=some (k,i)):(k=1/\yngR h.belts 0=some i/\0<=i.words/\i.words<=16384)\/(k=2/\i=⟨h.seq,0,-1,-1,0⟩):=by
 unfold candR at a;dsimp only at a;have b:∀ {p:Prop} [Decidable p],(if p then some ((2:Int),(⟨h.seq,0,-1,-1,0⟩:Inc)) else none)=some (k,i)->k=2/\i=⟨h.seq,0,-1,-1,0⟩:=λ{p} _ e=>by
  split at e
  ·injection e with e;injection e with c d;exact ⟨c.symm,d.symm⟩
  ·cases e
 cases hy:yngR h.belts 0 with
 | none=>rw[hy]at a;exact .inr (b a)
 | some y =>
  rw[hy]at a;dsimp only at a;split at a
  ·injection a with a;injection a with c d;subst c;subst d;obtain ⟨x,f,e,_⟩:=H.yng hy;have:=(H.sp.each x f).inc.wd;have:=XF H.sp.ok;rw[<- e];exact .inl ⟨rfl,rfl,Oo,Oo⟩
  ·exact .inr (b a)
theorem plan_c(H:QQ h BL){n:Int}(w:1<=n/\n<=1000):QO h.config h.space h.belts h.seq n=some (XE h n):=by
 obtain ⟨b,d⟩:=H.b0;have x:=H.bsz.2 _ (Wc b);have s:=H.sp.ok.shp.hi;have A:=H.sp.ok.shp.lo;refine Gd.eq ?_;unfold QO;refine .call (cap_c H.cfg ⟨Oo,Oo⟩ ⟨Oo,Oo⟩) (.call (Qdl H.bsz 0) ?_);have t:((h.config.rules[0]?).map Rul.limit).getD 0=h.config.rules[0].limit:=by rw[Wa d];rfl
 have u:(((h.belts[0]?).getD []).length:Nat)=h.belts[0].length:=by rw[Wa b];rfl
 have c:Gd (λz:(Int×Inc) ⊕ (Int×Inc)=>(∃ p,z = .inl p/\(if ((h.config.rules[0]?).map Rul.limit).getD 0=0\/((((h.belts[0]?).getD []).length:Nat):Int)<((h.config.rules[0]?).map Rul.limit).getD 0 then some ((2:Int),(⟨h.seq,0,-1,-1,0⟩:Inc)) else none)=some p)\/(z = .inr (3,inc0)/\(if ((h.config.rules[0]?).map Rul.limit).getD 0=0\/((((h.belts[0]?).getD []).length:Nat):Int)<((h.config.rules[0]?).map Rul.limit).getD 0 then some ((2:Int),(⟨h.seq,0,-1,-1,0⟩:Inc)) else none)=none))
   ((at_ h.config.rules 0).bind λo=>if o.limit=0 then(some (.inl ((2,Inc.mk h.seq 0 (-1) (-1) 0)))) else(at_ h.belts 0).bind λj=>if o.limit<=(j.length:Int) then(some (.inr ((3,Inc.mk 0 0 0 0 0)))) else some (.inl ((2,Inc.mk h.seq 0 (-1) (-1) 0)))):=by
  rw[t,u]
  refine .at0 d (.ite (λk=>.some (.inl ⟨_,rfl,if_pos (.inl k)⟩)) λk=>.at0 b (.ite (λv=>.some (.inr ⟨rfl,if_neg Oo⟩)) λv=>.some (.inl ⟨_,rfl,if_pos (.inr Oo)⟩)))
 refine Gd.bndR (P:=λz=>(∃ p,z = .inl p/\candR h=some p)\/(z = .inr (3,inc0)/\candR h=none)) ?_ (λp l=>?_) (λr l=>?_)
 ·unfold candR;dsimp only;cases hy:yngR h.belts 0 with
  | none=>exact .neg (by simp[optI]) c
  | some y =>
   refine .pos rfl (.call (open_c H.sp.ok.shp.sh _ _) ?_);dsimp only[optI];refine .ite (λf=>.some (.inl ⟨_,rfl,if_pos ?_⟩)) λf=>?_
   ·rw[VO,decide_eq_true_iff]at f;exact f.imp id λq=>of_decide_eq_true q
   ·rw[if_neg (λk=>f (by rw[VO,decide_eq_true_iff];exact k.imp id λq=>decide_eq_true q))];exact c
 ·rcases l with ⟨q,a,e⟩ | ⟨a,_⟩
  ·injection a with a;subst a;obtain ⟨k,i⟩:=p;unfold XE;rw[e];dsimp only;have g:0<=i.words/\i.words<=16384:=by
    rcases candR_in H e with k | ⟨_,k⟩
    ·exact k.2.2
    ·rw[k];show (0:Int)<=0/\(0:Int)<=16384;omega
   refine .call (grants_c H.cfg H.sp.ok.shp H.bsz H.wd g w) ?_;refine .ite (λm=>.some (by rw[if_pos (QI.1 m)])) λm=>.some (by rw[if_neg λq=>m (Qa5 q)])
  ·cases a
 ·rcases l with ⟨q,a,_⟩ | ⟨a,e⟩
  ·cases a
  ·injection a with a;rw[a];unfold XE;rw[e]
theorem wants_c(H:QQ h BL){n:Int}(a:1<=n/\n<=1000):ZO h n=some (decide ((XE h n).1=3)):=by unfold ZO;rw[plan_c H a];rfl
def ovrL(h:Hp):List Nat:=(List.range h.belts.length).filter λb=>match h.config.rules[b]?,h.belts[b]? with
 | some r,some q=>decide (¬ r.limit=0/\r.limit<(q.length:Int))
 | _,_=>false
theorem over_c(H:QQ h BL):JP h.config h.belts=some ((ovrL h).map λ(b:Nat)=>(b:Int)):=by
 have m:=H.cfg.len;have f:h.belts.length=h.config.rules.length:=by rw[H.bl,Wb,H.bn]
 refine Gd.eq ?_;unfold JP;refine .call (check_c H.cfg) (.pos rfl (.pos Oo ?_));refine Gd.bind (P:=λb=>b=(ovrL h).map λ(b:Nat)=>(b:Int)) ?_ λb j=>.some j;refine Gd.for h.belts.length (λ(t:List Int) i=>(t,i)) (λi t=>t.length<=i/\t=((List.range i).filter λb=>match h.config.rules[b]?,h.belts[b]? with
  | some r,some q=>decide (¬ r.limit=0/\r.limit<(q.length:Int))
  | _,_=>false).map λ(b:Nat)=>(b:Int)) [] rfl (λ_ _=>rfl) Oo ⟨Os,rfl⟩ (λi c t d=>?_) (λt d=>d.2)
 have a:i<h.config.rules.length:=by omega
 have g:=d.1;rw[Ur,W4,WP,<- d.2];refine .atN c (.atN a ?_);refine .ite (λk=>.some (.inl ⟨t,rfl,Oo,?_⟩)) λk=>.ite (λe=>.pos (XP (l:=t) Oo Oo) (.some (.inl ⟨t++[(i:Int)],rfl,by rw[We,WJ];omega,?_⟩))) λe=>.some (.inl ⟨t,rfl,Oo,?_⟩)
 ·simp[Wa c,Wa a,k]
 ·simp[Wa c,Wa a,k,e]
 ·have:¬ h.config.rules[i].limit<(h.belts[i].length:Int):=by omega
  simp[Wa c,Wa a,k,this]
end
def advK(B:List (List Inc))(last:Int):Nat->Cur->Cur
 | 0,k=>k
 | n+1,k=>if k.belt<last/\((B[k.belt.toNat]?).getD []).length=0 then advK B last n ⟨k.belt+1,false,0⟩ else k
def begK(B:List (List Inc))(a:Int)(k:Cur):Cur:=if k.belt=a/\¬ k.begun=true then ⟨k.belt,true,match yngR B a with | none=>-1 | some y=>y.seq⟩ else k
def QdT(B:List (List Inc))(a:Int)(k:Cur):List Inc:=((B[k.belt.toNat]?).getD []).filter λi=>decide (k.belt<a\/i.seq<=k.last)
def takF(s:Sp)(batch:Int):Int->Nat->List Inc->List Inc
 | free,n,[]=>[]
 | free,n,i :: l=>if free-clN s i.words<0\/(¬ batch=0/\(n:Int)=batch) then [] else i :: takF s batch (free-clN s i.words) (n+1) l
def Qdw(h:Hp)(k:Cur):List Inc×Cur×Bool :=
 let last:Int:=(h.belts.length:Int)-1
 let k1:=begK h.belts last (advK h.belts last 4 k)
 let c:=QdT h.belts last k1
 if c.length=0 then([],k1,true) else(takF h.space (((h.config.rules[k1.belt.toNat]?).map Rul.batch).getD 0) (Qk h.space.fs).length 0 c,k1,false)
theorem advK_rng(B:List (List Inc))(a:Int):∀ (n:Nat) (k:Cur),k.belt<=a->k.belt<=(advK B a n k).belt/\(advK B a n k).belt<=a
 | 0,k,h=>⟨Vo _,h⟩
 | n+1,k,h=>by
  unfold advK;split
  ·rename_i hc;have:=advK_rng B a n ⟨k.belt+1,false,0⟩ (by dsimp only;omega);dsimp only at this;omega
  ·exact ⟨Vo _,h⟩
theorem takF_sum(s:Sp)(f:QcQ s.sh)(c:Int):∀ (l:List Inc) (b:Int) (n:Nat),0<=b->sumI s (takF s c b n l)<=b
 | [],b,n,h=>h
 | i :: l,b,n,h=>by
  unfold takF;split
  ·exact h
  ·rename_i hc;have d:¬ b-clN s i.words<0:=λk=>hc (.inl k);have:=takF_sum s f c l (b-clN s i.words) (n+1) Oo;have e:∀ (l:List Inc) (a:Int),l.foldl (λ(n:Int) x=>n+clN s x.words) a=a+l.foldl (λ(n:Int) x=>n+clN s x.words) 0:=by
    intro l;induction l with
    | nil=>intro a;simp
    | cons x l ih=>intro a;rw[V2,V2,ih (a+clN s x.words),ih (0+clN s x.words)];omega
   unfold sumI at this ⊢;rw[V2,e];omega
theorem takF_pre(s:Sp)(b:Int):∀ (l:List Inc) (a:Int) (n:Nat),∃ m,takF s b a n l=l.take m
 | [],a,n=>⟨0,rfl⟩
 | i :: l,a,n=>by
  unfold takF;split
  ·exact ⟨0,rfl⟩
  ·obtain ⟨m,e⟩:=takF_pre s b l (a-clN s i.words) (n+1);exact ⟨m+1,by rw[e];rfl⟩
section
variable{h:Hp}{BL:List (List Itm)}
set_option maxHeartbeats 1000000 in
theorem choose_c(H:QQ h BL){k:Cur}(Y:0<=k.belt/\k.belt<h.belts.length):Xz h.config h.space h.belts k=some (Qdw h k):=by
 have I:=H.bsz;have X:=H.cfg.len;have L:=H.sp.ok.shp.hi;have M:h.belts.length=h.config.rules.length:=by rw[H.bl,Wb,H.bn]
 have N:=free_le h.space.fs;have O:w64 ((h.belts.length:Int)-1)=(h.belts.length:Int)-1:=Qb Oo;have g:∀ b:Int,0<=b->b<h.belts.length->∃ a:b.toNat<h.belts.length,(h.belts[b.toNat]?).getD []=h.belts[b.toNat]/\h.belts[b.toNat].length<=10000:=λb J e=>by
  have a:b.toNat<h.belts.length:=by omega
  exact ⟨a,by rw[Wa a];rfl,I.2 _ (Wc a)⟩
 refine Gd.eq ?_;unfold Xz Qdw;dsimp only;rw[O];generalize hlast:(h.belts.length:Int)-1=last;have v:=advK_rng h.belts last 4 k Oo;refine Gd.bind (P:=λb=>b=advK h.belts last 4 k) ?_ λb a=>?_
 ·refine Gd.loop (λx:Cur=>∃ n,advK h.belts last 4 k=advK h.belts last n x/\0<=x.belt/\x.belt<=last/\last<x.belt+n) _ (λx=>(last-x.belt).toNat) ⟨4,rfl,Oo,Oo,Oo⟩ ?_;rintro x ⟨n,hx,x0,x1,x2⟩;refine .ite (λr=>?_) λr=>.out ?_
  ·obtain ⟨a,s,U⟩:=g x.belt x0 Oo;refine .at x0 a ?_;obtain ⟨m,rfl⟩:∃ m,n=m+1:=⟨n-1,Oo⟩;refine .ite (λK=>?_) λK=>.out ?_
   ·have Q:w64 (x.belt+1)=x.belt+1:=Qb Oo;rw[Q];refine .go ⟨m,?_,by dsimp only;omega,by dsimp only;omega,by dsimp only;omega⟩ (by dsimp only;omega);rw[hx];conv=>lhs;unfold advK
    rw[if_pos ⟨r,by rw[s];omega⟩]
   ·rw[hx];conv=>rhs;unfold advK
    rw[if_neg];rintro ⟨_,V⟩;rw[s]at V;exact K Oo
  ·rw[hx];cases n with
   | zero=>rfl
   | succ m =>
    conv=>rhs;unfold advK
    rw[if_neg λk=>r k.1]
 subst a;generalize advK h.belts last 4 k=k0 at v ⊢;refine Gd.bind (P:=λb=>b=begK h.belts last k0) ?_ λb a=>?_
 ·unfold begK;refine .ite (λe=>?_) λe=>.some (by rw[if_neg λk=>e k.1]);refine .ite (λd=>.some (by rw[if_neg λk=>k.2 d])) λd=>?_;rw[if_pos ⟨e,d⟩];refine .call (Qdl I last) ?_;cases yngR h.belts last with
  | none=>exact .neg (by simp[optI]) (.some rfl)
  | some y=>exact .pos rfl (.some rfl)
 subst a;have B:(begK h.belts last k0).belt=k0.belt:=by unfold begK;split <;> rfl
 have C:k.belt<=(begK h.belts last k0).belt/\(begK h.belts last k0).belt<=last:=by rw[B];exact v
 generalize begK h.belts last k0=k1 at C ⊢;obtain ⟨a,s,U⟩:=g k1.belt Oo Oo;refine Gd.bind (P:=λb=>b=QdT h.belts last k1) ?_ λb E=>?_
 ·refine .at Oo a ?_;unfold QdT;rw[s];refine Gd.for h.belts[k1.belt.toNat].length (λ(t:List Inc) i=>(t,i)) (λi t=>t.length<=i/\t=(h.belts[k1.belt.toNat].take i).filter λi=>decide (k1.belt<last\/i.seq<=k1.last)) [] rfl (λ_ _=>rfl) Oo ⟨Os,rfl⟩ (λi f t p=>?_) (λt p=>by have:=p.2;rw[WQ]at this;exact this);have R:=p.1;rw[QC f,W4,<- p.2];refine .atN f ?_;refine .ite (λe=>.pos (XP (l:=t) Oo Oo) (.some (.inl ⟨t++[h.belts[k1.belt.toNat][i]],rfl,by rw[We,WJ];omega,?_⟩))) λe=>.ite (λd=>.pos (XP (l:=t) Oo Oo) (.some (.inl ⟨t++[h.belts[k1.belt.toNat][i]],rfl,by rw[We,WJ];omega,?_⟩))) λd=>.some (.inl ⟨t,rfl,Oo,?_⟩)
  ·simp[e]
  ·have d:h.belts[k1.belt.toNat][i].seq<=k1.last:=d;simp[d]
  ·have d:¬ h.belts[k1.belt.toNat][i].seq<=k1.last:=d;simp[e,d]
 subst E;have D:(QdT h.belts last k1).length<=10000:=by unfold QdT;rw[s];have:=W9 (λi:Inc=>decide (k1.belt<last\/i.seq<=k1.last)) h.belts[k1.belt.toNat];omega
 have w:∀ i∈QdT h.belts last k1,0<=i.words/\i.words<=16384:=λi f=>by unfold QdT at f;rw[s]at f;exact H.wd _ (Wc a) i (WX.1 f).1
 generalize QdT h.belts last k1=c at D w ⊢;refine .ite (λJ=>.some (by rw[if_pos (show c.length=0 by omega)])) λJ=>?_;rw[if_neg (show ¬ c.length=0 by omega)];refine .call (free_ok h.space Oo) ?_;have z:k1.belt.toNat<h.config.rules.length:=by omega
 refine .at Oo z ?_;rw[Wa z,Wx,WG,Wb];generalize h.config.rules[k1.belt.toNat].batch=bt;refine Gd.bind (P:=λb=>b=takF h.space bt (Qk h.space.fs).length 0 c) ?_ λb a=>.some (by rw[a]);refine Gd.for c.length (λ(t:List Inc×Int) i=>(t.1,t.2,i)) (λi t=>t.1.length=i/\(0<=t.2/\t.2<=64)/\takF h.space bt (Qk h.space.fs).length 0 c=t.1++takF h.space bt t.2 i (c.drop i)) ([],((Qk h.space.fs).length:Int)) rfl (λ_ _=>rfl) Oo ⟨rfl,⟨by dsimp only;omega,by dsimp only;omega⟩,Os⟩ (λi f t p=>?_) (λt p=>?_)
 ·obtain ⟨A,W,u⟩:=p;have S:=w _ (Wc f);have T:=QdR H.sp.ok.shp.sh c[i].words;rw[Vi f]at u;refine .atN f (.call (Qb2 H.sp.ok.shp.sh (by unfold I64;omega)) ?_);rw[show w64 ((t.1,t.2,(i:Int)).2.1-clN h.space c[i].words)=t.2-clN h.space c[i].words from Qb (by dsimp only;omega)];have j:(t.2-clN h.space c[i].words<0\/(¬ bt=0/\(i:Int)=bt))->t.1=takF h.space bt (Qk h.space.fs).length 0 c:=λF=>by
   rw[u];conv=>rhs;unfold takF
   rw[if_pos F,W6]
  have o:¬ (t.2-clN h.space c[i].words<0\/(¬ bt=0/\(i:Int)=bt))->(t.1++[c[i]]).length=i+1/\(0<=t.2-clN h.space c[i].words/\t.2-clN h.space c[i].words<=64)/\takF h.space bt (Qk h.space.fs).length 0 c=t.1++[c[i]]++takF h.space bt (t.2-clN h.space c[i].words) (i+1) (c.drop (i+1)):=λF=>by
   refine ⟨by rw[We,WJ,A],⟨Oo,Oo⟩,?_⟩;rw[u];conv=>lhs;unfold takF
   rw[if_neg F,WI];rfl
  refine .ite (λe=>.some (.inr ⟨_,rfl,j (.inl e)⟩)) λe=>?_;refine .ite (λd=>.pos (XP (l:=t.1) Oo Oo) (.some (.inl ⟨(t.1++[c[i]],t.2-clN h.space c[i].words),rfl,o (by rintro (q | q);exact e q;exact q.1 d)⟩))) λd=>?_;refine .ite (λG=>.some (.inr ⟨_,rfl,j (.inr ⟨d,by rw[<- A];exact G⟩)⟩)) λG=>.pos (XP (l:=t.1) Oo Oo) (.some (.inl ⟨(t.1++[c[i]],t.2-clN h.space c[i].words),rfl,o (by rintro (q | q);exact e q;exact G (by rw[<- q.2,<- A])) ⟩))
 ·obtain ⟨A,W,u⟩:=p;rw[List.drop_length]at u;show t.1=_;rw[u];conv=>rhs;unfold takF
  rw[W6]
end
structure QeD(h:Hp)(BL:List (List Itm))(k:Cur):Prop where
 lo:0<=k.belt
 hi:k.belt<BL.length
 low:∀ b (hb:b<BL.length),(b:Int)<k.belt->BL[b]=[]
 beg:k.begun=true->k.belt=(BL.length:Int)-1/\k.last<h.seq
theorem find_uniq{l:List Inc}(c:l.Pairwise λx y=>x.seq≠y.seq){x:Inc}(d:x∈l):l.find? (λy=>decide (y.seq=x.seq))=some x:=by obtain ⟨i,a,rfl⟩:=WL.1 d;rw[Yq];refine ⟨Os,i,a,rfl,λj b=>?_⟩;have:=WA.1 c j i Oo a b;simpa using this
theorem filter_asc{L:Int}:∀ {q:List Inc},q.Pairwise (λx y=>x.seq<y.seq)->∃ m,(q.filter λi=>decide (i.seq<=L))=q.take m
 | [],_=>⟨0,rfl⟩
 | x :: q,h=>by
  have a:=Vw.1 h;by_cases b:x.seq<=L
  ·obtain ⟨m,e⟩:=filter_asc (L:=L) a.2;exact ⟨m+1,by rw[VB,if_pos (by simpa using b),e];rfl⟩
  ·refine ⟨0,?_⟩;rw[Y3,Uu];intro y hy;rcases Wu.1 hy with rfl | hy
   ·simpa using b
   ·have:=a.1 y hy;simp;omega
theorem flat_low{α:Type}:∀ {B:List (List α)} {b:Nat} (c:b<B.length),(∀ a (ha:a<B.length),a<b->B[a]=[])->B.flatten=B[b]++(B.drop (b+1)).flatten
 | q :: B,0,c,_=>rfl
 | q :: B,b+1,c,h=>by have d:q=[]:=h 0 Os Oo;have:=flat_low (B:=B) (b:=b) (by simpa using c) λa ha e=>h (a+1) (by simpa using ha) Oo;rw[Vr,d,V3,this];rfl
section
variable{h:Hp}{BL:List (List Itm)}
theorem QQ.blen(H:QQ h BL):h.belts.length=BL.length:=by rw[H.bl,Wb]
theorem adv_ok(H:QQ h BL):∀ (n:Nat) {k:Cur},QeD h BL k->QeD h BL (advK h.belts ((h.belts.length:Int)-1) n k)
 | 0,k,hk=>hk
 | n+1,k,hk=>by
  unfold advK;split
  ·rename_i hc;have f:=H.blen;have g:=hk.lo;refine adv_ok H n ⟨by dsimp only;omega,by dsimp only;omega,λb a d=>?_,λa=>by cases a⟩;dsimp only at d;rcases U5 (b:Int) k.belt with c | c
   ·exact hk.low b a c
   ·have e:k.belt.toNat=b:=by omega
    have:=hc.2;rw[e,H.bl_at a,WG,Wb]at this;exact Un this
  ·exact hk
theorem beg_ok(H:QQ h BL){k:Cur}(a:QeD h BL k):QeD h BL (begK h.belts ((h.belts.length:Int)-1) k)/\((begK h.belts ((h.belts.length:Int)-1) k).belt=(h.belts.length:Int)-1->(begK h.belts ((h.belts.length:Int)-1) k).begun=true)/\(k.begun=true->begK h.belts ((h.belts.length:Int)-1) k=k):=by
 have d:=H.blen;unfold begK;split
 ·rename_i hc;refine ⟨⟨a.lo,a.hi,a.low,λ_=>⟨by dsimp only;omega,?_⟩⟩,λ_=>rfl,λb=>absurd b hc.2⟩;cases hy:yngR h.belts ((h.belts.length:Int)-1) with
  | none=>have:=H.sq0;show (-1:Int)<h.seq;omega
  | some y =>obtain ⟨x,c,e,_⟩:=H.yng hy;show y.seq<h.seq;rw[<- e];exact H.sq x c
 ·rename_i hc;refine ⟨a,λe=>?_,λ_=>rfl⟩;apply Classical.byContradiction;intro b;exact hc ⟨e,b⟩
structure ChsOk(h:Hp)(BL:List (List Itm))(k:Cur)(l:List Inc)(k':Cur):Prop where
 tgt:TgtP h.belts l
 sum:sumI h.space l<=(Qk h.space.fs).length
 at_:∃ b:Nat,∃ hb:b<BL.length,k'.belt=(b:Int)/\∀ i∈l,∃ x∈BL[b],x.i=i/\((b:Int)<(BL.length:Int)-1\/i.seq<=k'.last)
 len:l.length<=64
theorem chs_spec(H:QQ h BL){k:Cur}(K:QeD h BL k) :
  QeD h BL (Qdw h k).2.1/\k.belt<=(Qdw h k).2.1.belt/\((Qdw h k).2.1.belt=(BL.length:Int)-1->(Qdw h k).2.1.begun=true)/\(k.begun=true->(Qdw h k).2.1=k)/\((Qdw h k).1.length≠0->(Qdw h k).2.2=false/\ChsOk h BL k (Qdw h k).1 (Qdw h k).2.1):=by
 have X:=H.blen;have O:=K.hi;have P:=adv_ok H 4 K;have ar:=advK_rng h.belts ((h.belts.length:Int)-1) 4 k Oo;obtain ⟨v,I,M⟩:=beg_ok H P;have Q:(begK h.belts ((h.belts.length:Int)-1) (advK h.belts ((h.belts.length:Int)-1) 4 k)).belt=(advK h.belts ((h.belts.length:Int)-1) 4 k).belt:=by unfold begK;split <;> rfl
 have R:k.begun=true->advK h.belts ((h.belts.length:Int)-1) 4 k=k:=λw=>by have:=(K.beg w).1;unfold advK;rw[if_neg];rintro ⟨c,_⟩;omega
 have t:k.begun=true->begK h.belts ((h.belts.length:Int)-1) (advK h.belts ((h.belts.length:Int)-1) 4 k)=k:=λw=>by rw[R w]at M ⊢;exact M w
 unfold Qdw;dsimp only;generalize begK h.belts ((h.belts.length:Int)-1) (advK h.belts ((h.belts.length:Int)-1) 4 k)=k1 at v I Q t ⊢;by_cases N:(QdT h.belts ((h.belts.length:Int)-1) k1).length=0
 ·rw[if_pos N];exact ⟨v,by dsimp only;omega,λe=>I (by dsimp only at e;omega),t,λk=>absurd rfl k⟩
 ·rw[if_neg N];refine ⟨v,by dsimp only;omega,λe=>I (by dsimp only at e;omega),t,λD=>⟨rfl,?_⟩⟩;dsimp only at D ⊢;obtain ⟨b,w⟩:∃ b:Nat,k1.belt=(b:Int):=⟨k1.belt.toNat,by have:=v.lo;omega⟩;have f:b<BL.length:=by have:=v.hi;omega
  have E:k1.belt.toNat=b:=by omega
  have z:h.belts[k1.belt.toNat]?=some (BL[b].map Itm.i):=by rw[E];exact H.bl_at f
  have A:(BL[b].map Itm.i).Pairwise λx y=>x.seq<y.seq:=by rw[Vs];exact H.asc _ (Wc f)
  obtain ⟨m,hm⟩:∃ m,QdT h.belts ((h.belts.length:Int)-1) k1=(BL[b].map Itm.i).take m:=by
   unfold QdT;rw[z,WG];by_cases C:k1.belt<(h.belts.length:Int)-1
   ·refine ⟨(BL[b].map Itm.i).length,?_⟩;rw[WQ,VI];intro i _;simp[C]
   ·obtain ⟨m,e⟩:=filter_asc (L:=k1.last) A;refine ⟨m,?_⟩;rw[<- e];refine U0 λi _=>?_;simp[C]
  generalize hgt:takF h.space (((h.config.rules[k1.belt.toNat]?).map Rul.batch).getD 0) (Qk h.space.fs).length 0 (QdT h.belts ((h.belts.length:Int)-1) k1)=l at D;obtain ⟨J,n⟩:=takF_pre h.space (((h.config.rules[k1.belt.toNat]?).map Rul.batch).getD 0) (QdT h.belts ((h.belts.length:Int)-1) k1) (Qk h.space.fs).length 0;rw[hgt]at n;have p:=takF_sum h.space H.sp.ok.shp.sh (((h.config.rules[k1.belt.toNat]?).map Rul.batch).getD 0) (QdT h.belts ((h.belts.length:Int)-1) k1) (Qk h.space.fs).length 0 Oo;rw[hgt]at p;have u:∀ i∈l,i∈BL[b].map Itm.i/\(k1.belt<(h.belts.length:Int)-1\/i.seq<=k1.last):=λi j=>by rw[n]at j;have:=VJ j;unfold QdT at this;rw[z,WG,WX]at this;exact ⟨this.1,by simpa using this.2⟩
  have q:h.belts.flatten=BL[b].map Itm.i++((BL.drop (b+1)).flatten).map Itm.i:=by rw[H.flat,flat_low f λa U V=>v.low a U Oo,WP]
  have r:l.length<=(BL[b].map Itm.i).length:=by rw[n,hm,Wf,Wf];omega
  have d:l=h.belts.flatten.take l.length:=by
   rw[q,WU r];have:l=(BL[b].map Itm.i).take (min J m):=by rw[n,hm,U4]
   have S:l.length=min (min J m) (BL[b].map Itm.i).length:=by rw[this,Wf]
   rw[S];conv=>lhs;rw[this]
   rcases Nat.le_total (min J m) (BL[b].map Itm.i).length with c | c
   ·rw[W5 c]
   ·rw[Nat.min_eq_right c,WD c,WQ]
  have F:∀ i∈l,i∈h.belts.flatten:=λi j=>by rw[q];exact Wg _ (u i j).1
  have g:∀ i∈l,i.belt=(b:Int):=λi j=>by obtain ⟨x,o,rfl⟩:=Wm.1 (u i j).1;exact H.blt b f x o
  have B:0<l.length:=by omega
  refine ⟨⟨B,λx o=>⟨find_uniq H.dist (F x o),by rw[g x o,g _ (Wc B)]⟩,?_⟩,p,⟨b,f,w,λi j=>?_⟩,?_⟩
  ·have G:(l.map Inc.seq).Nodup:=by rw[Vd,Vs,d];exact H.dist.sublist (List.take_sublist _ _)
   refine ⟨?_,G,λs W=>?_,λx o=>?_⟩
   ·rw[Wb];have:=congrArg List.length d;rw[Wf]at this;omega
   ·rw[Wb,<- d];obtain ⟨i,j,e⟩:=Wm.1 W;exact ⟨i,j,e⟩
   ·rw[Wb,<- d]at o;exact Vc o
  ·obtain ⟨T,h2⟩:=u i j;obtain ⟨x,o,e⟩:=Wm.1 T;exact ⟨x,o,e,by rcases h2 with h2 | h2;exact .inl Oo;exact .inr h2⟩
  ·have:=QcX (Wc f);have:=H.count;rw[Wb]at r;omega
end
def Qfp:List Nat->Nat
 | []=>0
 | n :: l=>n*(l.length+1)+Qfp l
theorem rndS_le:∀ {A' A:List Nat},A'.length=A.length->(∀ i (h:i<A'.length) (h':i<A.length),A'[i]<=A[i])->Qfp A'<=Qfp A
 | [],[],_,_=>Wl _
 | [],_ :: _,h,_=>by simp at h
 | _ :: _,[],h,_=>by simp at h
 | n' :: A',n :: A,hl,h=>by
  have b:=rndS_le (A':=A') (A:=A) (by simpa using hl) λi b a=>h (i+1) (by simpa using b) (by simpa using a);have a:n'<=n:=h 0 Os Os;have c:A'.length=A.length:=by simpa using hl
  unfold Qfp;rw[c];have:=Wy (A.length+1) a;omega
theorem rndS_lt:∀ {A' A:List Nat} {b:Nat},A'.length=A.length->(∀ i (h:i<A'.length) (h':i<A.length),A'[i]<=A[i])->(∀ (h:b<A'.length) (h':b<A.length),A'[b]<A[b])->b<A.length->Qfp A'+(A.length-b)<=Qfp A
 | [],[],b,_,_,_,hb=>by simp at hb
 | [],_ :: _,_,h,_,_,_=>by simp at h
 | _ :: _,[],_,h,_,_,_=>by simp at h
 | n' :: A',n :: A,0,hl,h,hb,_=>by
  have c:=rndS_le (A':=A') (A:=A) (by simpa using hl) λi c a=>h (i+1) (by simpa using c) (by simpa using a);have a:n' < n:=hb Os Os;have d:A'.length=A.length:=by simpa using hl
  have:=Wy (A.length+1) (show n'+1<=n from a);rw[Vk,UH]at this;show n' * (A'.length+1)+Qfp A'+(A.length+1-0)<=n*(A.length+1)+Qfp A;rw[d];omega
 | n' :: A',n :: A,b+1,hl,h,hb,hbl=>by
  have c:=rndS_lt (A':=A') (A:=A) (b:=b) (by simpa using hl) (λi c a=>h (i+1) (by simpa using c) (by simpa using a)) (λc a=>hb (by simpa using c) (by simpa using a)) (by simpa using hbl);have a:n'<=n:=h 0 Os Os;have d:A'.length=A.length:=by simpa using hl
  have:=Wy (A.length+1) a;show n' * (A'.length+1)+Qfp A'+(A.length+1-(b+1))<=n*(A.length+1)+Qfp A;rw[d];omega
theorem rndS_add:∀ {A:List Nat} {t:Nat},t<A.length->Qfp (A.modify t (·+1))=Qfp A+(A.length-t)
 | [],t,h=>by simp at h
 | n :: A,0,_=>by show (n+1)*(A.length+1)+Qfp A=n*(A.length+1)+Qfp A+(A.length+1-0);rw[Vk,UH];omega
 | n :: A,t+1,h=>by have:=rndS_add (A:=A) (t:=t) (by simpa using h);show n*((A.modify t (·+1)).length+1)+Qfp (A.modify t (·+1))=n*(A.length+1)+Qfp A+(A.length+1-(t+1));rw[Yg,this];omega
theorem rndS_last:∀ {A:List Nat} (h:A.length-1<A.length),A[A.length-1]<=Qfp A
 | [],h=>by simp at h
 | [n],_=>by show n<=n*1+0;omega
 | n :: m :: A,_=>by have:=rndS_last (A:=m :: A) Os;show (m :: A)[(m :: A).length-1]' Os<=n*((m :: A).length+1)+Qfp (m :: A);omega
theorem QgU{α:Type}{p q:α->Bool}:∀ {l:List α},(∃ x∈l,p x=true/\q x=false)->(l.filter q).countP p<l.countP p
 | [],h=>by obtain ⟨x,hx,_⟩:=h;cases hx
 | a :: l,h=>by
  have c:∀ l:List α,(l.filter q).countP p<=l.countP p:=λl=>by
   induction l with
   | nil=>exact Wl _
   | cons b l ih =>
    rw[VB];split
    ·rw[Ux,Ux];omega
    ·rw[Ux];omega
  obtain ⟨x,hx,d,e⟩:=h;rcases Wu.1 hx with rfl | hx
  ·rw[VB,if_neg (by rw[e];decide),Ux,if_pos d];have:=c l;omega
  ·have:=QgU (p:=p) (q:=q) ⟨x,hx,d,e⟩;rw[VB];split
   ·rw[Ux,Ux];omega
   ·rw[Ux];omega
def nuR(a:List (List Itm))(k:Cur):Nat:=if k.begun=true then((a[a.length-1]?).getD []).countP λx=>decide (x.i.seq<=k.last) else Qfp (a.map List.length)
section
variable{h:Hp}{BL:List (List Itm)}{l:List Inc}{C K:List Itm}{T0 T:Itm}{M:List (Nat×Nat×Nat)}
theorem tgtI_belt(H:QQ h BL)(c:TgtP h.belts l){b:Nat}(g:b<BL.length)(a:(l[0]'c.1).belt=(b:Int)):∃ hbl:b<h.config.rules.length,(tgtI h l).belt=h.config.rules[b].target:=by
 have hbl:b<h.config.rules.length:=by rw[<- H.bn];exact g
 have d:((h.config.rules[((l.head?).getD inc0).belt.toNat]?).map Rul.target).getD 0=h.config.rules[b].target:=by rw[Yl,Wa c.1,WG,a,Wd,Wa hbl];rfl
 refine ⟨hbl,?_⟩;unfold tgtI;rw[d];dsimp only;cases hy:yngR h.belts h.config.rules[b].target with
 | none=>rfl
 | some y =>
  dsimp only;split
  ·obtain ⟨x,i,e,f⟩:=H.yng hy;exact f
  ·rfl
theorem step_x(H:QQ h BL){k k':Cur}(c:ChsOk h BL k l k')(d:h.seq<=4294967294):∃ C K T0 T M,StX h BL l C K T0 T M:=by
 obtain ⟨C,K,T0,S⟩:=step_parts H c.tgt;have b:sumF h.space C<=(Qk h.space.fs).length:=by rw[<- sumI_eq,S.ci];exact c.sum
 have a:=step_ctx H c.tgt S Oo b (by have:=c.len;omega);obtain ⟨_,T,M,R⟩:=step_run H c.tgt S a;exact ⟨C,K,T0,T,M,H,c.tgt,S,a,R,d⟩
theorem bse_at{b:Nat}(a:b<BL.length):(Jr BL C)[b]?=some (BL[b].filter λx=>bP (x∉C)):=by unfold Jr;rw[Wh,Wa a];rfl
theorem StX.blen(X:StX h BL l C K T0 T M):(ZJ BL C T0 T).length=BL.length:=by
 unfold ZJ;split
 ·rw[Wb,J2]
 ·split
  ·rw[Yg,J2]
  ·exact J2 _ _
theorem StX.belt(X:StX h BL l C K T0 T M){b:Nat}(a:b<BL.length):∃ q,(ZJ BL C T0 T)[b]?=some q/\((q.map λx=>x.i.seq)=(BL[b].filter λx=>bP (x∉C)).map λx=>x.i.seq)\/∃ q,(ZJ BL C T0 T)[b]?=some q/\q=(BL[b].filter λx=>bP (x∉C))++[T]/\T0.i.belt.toNat=b/\T.i.seq=h.seq:=by
 have d:=X.tq;unfold ZJ;split
 ·refine ⟨(BL[b].filter λx=>bP (x∉C)).map (QdD T0 T),.inl ⟨by rw[Wh,bse_at a];rfl,?_⟩⟩;rw[Va];refine W7 λx _=>?_;show (QdD T0 T x).i.seq=x.i.seq;unfold QdD;split
  ·rename_i e;rw[e,d.1]
  ·rfl
 ·rename_i h0;split
  ·by_cases e:T0.i.belt.toNat=b
   ·refine ⟨[],.inr ⟨_,by rw[Vf,bse_at a];simp[e],rfl,e,?_⟩⟩;rw[d.1];rcases X.S.tin with k | ⟨c,f⟩
    ·exact absurd k.1 h0
    ·rw[f]
   ·exact ⟨BL[b].filter λx=>bP (x∉C),.inl ⟨by rw[Vf,bse_at a];simp[e],rfl⟩⟩
  ·exact ⟨_,.inl ⟨bse_at a,rfl⟩⟩
theorem StX.lens(X:StX h BL l C K T0 T M):(ZJ BL C T0 T).map List.length=(Jr BL C).map List.length\/(ZJ BL C T0 T).map List.length=((Jr BL C).map List.length).modify T0.i.belt.toNat (·+1):=by
 unfold ZJ;split
 ·left;rw[Va];refine W7 λq _=>?_;show (q.map _).length=q.length;rw[Wb]
 ·split
  ·right;apply Ud;intro n;rw[Wh,Vf,Vf,Wh];cases (Jr BL C)[n]? with
   | none=>rfl
   | some q =>simp only[Wx,VZ];split <;> simp
  ·exact .inl rfl
theorem StX.seqs(X:StX h BL l C K T0 T M):h.seq<=(ZW h l).seq/\(ZW h l).seq<=h.seq+1:=by rw[X.belts.2];split <;> omega
theorem step_cur(X:StX h BL l C K T0 T M){k k':Cur}(hk:QeD h BL k)(d:QeD h BL k')(N:k'.belt=(BL.length:Int)-1->k'.begun=true)(O:k.begun=true->k'=k)(z:ChsOk h BL k l k') :
  QeD (ZW h l) (ZJ BL C T0 T) k'/\nuR (ZJ BL C T0 T) k' < nuR BL k:=by
 obtain ⟨b,n,eb,V⟩:=z.at_;have f:=X.blen;have S:=X.seqs;have p:(l[0]'z.tgt.1).belt=(b:Int):=by obtain ⟨x,w,e,_⟩:=V _ (Wc z.tgt.1);rw[<- e];exact X.H.blt b n x w
 obtain ⟨R,et⟩:=tgtI_belt X.H z.tgt n p;obtain ⟨_,_,_,q4,q5⟩:=X.H.cfg.rule b R;have aa:=X.H.bn;have B:T0.i.belt=h.config.rules[b].target:=by rw[X.S.ti];exact et
 obtain ⟨c,hcC,hcb,hcs⟩:∃ c∈C,c∈BL[b]/\((b:Int)<(BL.length:Int)-1\/c.i.seq<=k'.last):=by
  have P:=Wc z.tgt.1;obtain ⟨x,w,e,hs⟩:=V _ P;have Q:l[0]'z.tgt.1∈C.map Itm.i:=by rw[X.S.ci];exact P
  obtain ⟨y,W,v⟩:=Wm.1 Q;have:y=x:=X.H.uniq (X.S.cin y W) (Vu.2 ⟨_,Wc n,w⟩) (by rw[v,e]);subst this;exact ⟨y,W,w,by rw[v];exact hs⟩
 have D:b<=T0.i.belt.toNat/\(b+1<BL.length->b<T0.i.belt.toNat)/\T0.i.belt.toNat<BL.length:=by
  have:=X.b0;rcases Ws (b+1) h.config.rules.length with cc | cc
  ·have:=q5 cc;rw[B]at *;omega
  ·have:=(q4 Oo).2;rw[B]at *;omega
 refine ⟨⟨d.lo,by rw[f];exact d.hi,λa Z g=>?_,λo=>?_⟩,?_⟩
 ·have E:a<BL.length:=by rw[<- f];exact Z
  have P:=d.low a E g;obtain ⟨q,t | ⟨q2,t,_,Y,_⟩⟩:=X.belt E
  ·obtain ⟨u,v⟩:=t;rw[Wa Z]at u;injection u with u;rw[u];rw[P]at v;have:=congrArg List.length v;simp at this;exact this
  ·omega
 ·have:=d.beg o;rw[f];exact ⟨this.1,Oo⟩
 ·have r:∀ i (Q:i<((Jr BL C).map List.length).length) (L:i<(BL.map List.length).length),((Jr BL C).map List.length)[i]<=(BL.map List.length)[i]:=λi Q L=>by rw[Wb]at L;rw[Vt,Vt];have e:=bse_at (C:=C) L;rw[Wa (by rw[J2];exact L)]at e;injection e with e;rw[e];exact W9 _ _
  have F:((Jr BL C).map List.length).length=(BL.map List.length).length:=by rw[Wb,Wb,J2]
  by_cases o:k'.begun=true
  ·have G:=(d.beg o).1;have H:b=BL.length-1:=by omega
   have I:c.i.seq<=k'.last:=by rcases hcs with q | q;omega;exact q
   have J:(((ZJ BL C T0 T)[(ZJ BL C T0 T).length-1]?).getD []).countP (λx=>decide (x.i.seq<=k'.last))=(BL[b].filter λx=>bP (x∉C)).countP λx=>decide (x.i.seq<=k'.last):=by
    rw[f,<- H];have m:∀ q:List Itm,q.countP (λx=>decide (x.i.seq<=k'.last))=(q.map λx=>x.i.seq).countP λs=>decide (s<=k'.last):=λq=>by rw[List.countP_map];rfl
    obtain ⟨q,t | ⟨q2,t,Y,k3,k4⟩⟩:=X.belt n
    ·rw[t.1,WG,m,t.2,<- m]
    ·rw[t,WG,Y,List.countP_append];have:=(d.beg o).2;rw[show [T].countP (λx=>decide (x.i.seq<=k'.last))=0 from by rw[List.countP_eq_zero];intro x w;rw[Wn.1 w,k4];simp;omega,Vz]
   have g:(BL[b].filter λx=>bP (x∉C)).countP (λx=>decide (x.i.seq<=k'.last))<BL[b].countP λx=>decide (x.i.seq<=k'.last):=QgU ⟨c,hcb,by simpa using I,Qfm λk=>k hcC⟩;have u:nuR (ZJ BL C T0 T) k'=(BL[b].filter λx=>bP (x∉C)).countP λx=>decide (x.i.seq<=k'.last):=by unfold nuR;rw[if_pos o];exact J
   rw[u];by_cases j:k.begun=true
   ·have:=O j;subst this;unfold nuR;rw[if_pos j,<- H,Wa n];exact g
   ·have v:nuR BL k=Qfp (BL.map List.length):=by unfold nuR;rw[if_neg j]
    have U:=rndS_last (A:=BL.map List.length) (by rw[Wb];omega);rw[Vt]at U;have h4:BL[b].countP (λx=>decide (x.i.seq<=k'.last))<=BL[b].length:=List.countP_le_length;have h5:BL[(BL.map List.length).length-1]'(by rw[Wb];omega)=BL[b]:=by congr 1;rw[Wb];omega
    rw[h5]at U;omega
  ·have j:¬ k.begun=true:=λq=>o (by rw[O q];exact q);have G:b+1<BL.length:=by
    have:=d.hi;rcases Ws (b+1) BL.length with q | q
    ·exact q
    ·exact absurd (N Oo) o
   unfold nuR;rw[if_neg o,if_neg j];have g:=rndS_lt (A':=(Jr BL C).map List.length) (A:=BL.map List.length) (b:=b) F r (λQ L=>by
    rw[Vt,Vt]
    have e:=bse_at (C:=C) n
    rw[Wa (by rw[J2];exact n)]at e
    injection e with e
    rw[e]
    refine List.length_filter_lt_length_iff_exists.2 ⟨c,hcb,?_⟩
    rw[Qfm λk=>k hcC];decide) (by rw[Wb];exact n)
   rw[Wb]at g;rcases X.lens with e | e
   ·rw[e];omega
   ·rw[e,rndS_add (by rw[Wb,J2];exact D.2.2),Wb,J2];have:=D.2.1 G;omega
end
def endH(h:Hp):Hp:=⟨h.config,h.space,h.belts,h.seq,h.sets,h.roots,0,⟨h.stats.allocated,h.stats.objects,h.stats.collections,h.stats.steps,w64 (h.stats.rounds+1),h.stats.condemned,h.stats.copied,h.stats.entries,h.stats.work⟩,h.dead⟩
def QgS(h:Hp)(n:Int):Prop:=0<n/\¬ (XE h n).1=3/\ovrL h=[]
def Qd5(n:Int):Nat->Hp->Cur->Hp×Bool
 | 0,h,_=>(h,false)
 | f+1,h,k=>open Classical in
  if QgS h n then(h,false)
  else if (Qdw h k).2.2=true then(endH h,true)
  else if (Qdw h k).1.length=0 then(h,false)
  else Qd5 n f (ZW h (Qdw h k).1) (Qdw h k).2.1
open Classical in
theorem rndN_succ (n:Int) (f:Nat) (h:Hp) (k:Cur):Qd5 n (f+1) h k=if QgS h n then(h,false) else if (Qdw h k).2.2=true then(endH h,true) else if (Qdw h k).1.length=0 then(h,false) else Qd5 n f (ZW h (Qdw h k).1) (Qdw h k).2.1:=rfl
inductive Stps:Hp->List (List Itm)->Nat->Hp->List (List Itm)->Prop
 | refl {h:Hp} {BL:List (List Itm)}:Stps h BL 0 h BL
 | step {h h':Hp} {BL BL':List (List Itm)} {m:Nat} {l:List Inc} {C K:List Itm} {T0 T:Itm} {M:List (Nat×Nat×Nat)}:StX h BL l C K T0 T M->Stps (ZW h l) (ZJ BL C T0 T) m h' BL'->Stps h BL (m+1) h' BL'
theorem Stps.inv{h b:Hp}{c a:List (List Itm)}{m:Nat}(s:Stps h c m b a)(H:QQ h c):QQ b a:=by
 induction s with
 | refl=>exact H
 | step X _ ih=>exact ih X.inv
theorem Stps.keep{h k:Hp}{o l:List (List Itm)}{m:Nat}(s:Stps h o m k l):k.config=h.config/\k.dead=h.dead/\k.since=h.since/\h.seq<=k.seq/\k.seq<=h.seq+m/\k.roots.used=h.roots.used/\k.space.sh=h.space.sh/\k.space.ws.length=h.space.ws.length/\k.space.fs.length=h.space.fs.length:=by
 induction s with
 | refl=>exact ⟨rfl,rfl,rfl,Vo _,Oo,rfl,rfl,rfl,rfl⟩
 | step X _ ih =>have p:=X.seqs;have n:=X.len3;obtain ⟨a,b,c,d,e,f,g,i,j⟩:=ih;exact ⟨a,b,c,Oo,by push_cast;omega,f,g,i.trans n.1,j.trans n.2⟩
def StopP(h:Hp)(n:Int)(k:Cur)(r:Hp×Bool):Prop:=(r=(h,false)/\(QgS h n\/((Qdw h k).2.2=false/\(Qdw h k).1=[])))\/(r=(endH h,true)/\¬ QgS h n/\(Qdw h k).2.2=true)
theorem rnd_steps{n:Int}:∀ (f:Nat) {h:Hp} {a:List (List Itm)} {k:Cur},QQ h a->QeD h a k->nuR a k<f->h.seq+nuR a k<=4294967294 ->
  ∃ h1 BL1 m k1,Stps h a m h1 BL1/\m<=nuR a k/\QeD h1 BL1 k1/\StopP h1 n k1 (Qd5 n f h k)
 | 0,h,a,k,_,_,hf,_=>absurd hf (WT _)
 | f+1,h,a,k,H,hk,hf,hq=>by
  obtain ⟨g,v,i,j,l⟩:=chs_spec H hk;unfold Qd5;by_cases b:QgS h n
  ·rw[if_pos b];exact ⟨h,a,0,k,.refl,WO _,hk,.inl ⟨rfl,.inl b⟩⟩
  ·rw[if_neg b];by_cases h1:(Qdw h k).2.2=true
   ·rw[if_pos h1];exact ⟨h,a,0,k,.refl,WO _,hk,.inr ⟨rfl,b,h1⟩⟩
   ·rw[if_neg h1];by_cases c:(Qdw h k).1.length=0
    ·rw[if_pos c];exact ⟨h,a,0,k,.refl,WO _,hk,.inl ⟨rfl,.inr ⟨by simpa using h1,Un c⟩⟩⟩
    ·rw[if_neg c];obtain ⟨_,e⟩:=l c;obtain ⟨C,K,w,T,M,X⟩:=step_x H e Oo;obtain ⟨o,x⟩:=step_cur X hk g i j e;have u:=X.seqs;obtain ⟨p,d,m,q,r,y,s,t⟩:=rnd_steps (n:=n) f X.inv o Oo Oo;exact ⟨p,d,m+1,q,.step X r,Oo,s,t⟩
theorem nuR_0(a:List (List Itm)):nuR a ⟨0,false,0⟩=Qfp (a.map List.length):=rfl
theorem rndS_256{h:Hp}{a:List (List Itm)}(H:QQ h a):Qfp (a.map List.length)<=256:=by
 have c:=H.count;have f:=H.cfg.len;have g:=H.bn;have b:∀ (A:List Nat),Qfp A<=A.sum*A.length:=by
  intro A;induction A with
  | nil=>exact Wl _
  | cons n A ih =>
   show n*(A.length+1)+Qfp A<=(n :: A).sum*(A.length+1);rw[UW,Vk];have:=Nat.mul_le_mul_left A.sum (Nat.le_succ A.length);have e:A.sum*(A.length+1)=A.sum*A.length+A.sum:=by rw[Nat.mul_add,YG]
   omega
 have d:=b (a.map List.length);rw[<- U7,Wb]at d;have:a.flatten.length*a.length<=64*4:=VP c Oo;omega
theorem cur_0{h:Hp}{c:List (List Itm)}(H:QQ h c):QeD h c ⟨0,false,0⟩:=by have:=H.b0;have:=H.blen;exact ⟨Vo _,by dsimp only;omega,λb _ a=>by dsimp only at a;omega,λh=>by cases h⟩
theorem loop_fuel{σ β:Type}{F:σ->Option (LS σ β)}{I:Nat->σ->β->Prop}(d:∀ s b,¬ I 0 s b)(h:∀ f s b,I (f+1) s b->Gd (λa=>(∃ s',a=LS.go s'/\I f s' b)\/a=LS.out b) (F s)):∀ f s b,I f s b->Qf F s=some b
 | 0,s,b,hI=>absurd hI (d s b)
 | f+1,s,b,hI=>by
  obtain ⟨a,c,e⟩:=h f s b hI;rcases e with ⟨s',rfl,g⟩ | rfl
  ·rw[Qf4 c];exact loop_fuel d h f s' b g
  ·exact QcY c
abbrev RndT:=ByteArray×List Rul×Int×Int×List Int×List Fe×List (List Inc)×Int×List Qe×List Bool×List Int×Int×Int×Int×Int×Int×Int×Int×Int×Int×Int×Bool×Cur
def mkR(h:Hp)(k:Cur):RndT:=(h.config.name,h.config.rules,h.config.full,h.space.sh,h.space.ws,h.space.fs,h.belts,h.seq,h.sets,h.roots.used,h.roots.refs,h.since,h.stats.allocated,h.stats.objects,h.stats.collections,h.stats.steps,h.stats.rounds,h.stats.condemned,h.stats.copied,h.stats.entries,h.stats.work,h.dead,k)
set_option maxHeartbeats 1000000 in
theorem round_c{h:Hp}{B:List (List Itm)}(H:QQ h B){n:Int}(V:n=0\/(1<=n/\n<=1000))(U:h.seq+256<=4294967294):ZP h n=some (Qd5 n 300 h ⟨0,false,0⟩):=by
 have y:=rndS_256 H;refine Gd.eq ?_;unfold ZP;refine .call (Qct H) ?_;refine Gd.of (loop_fuel (I:=λf (x:RndT) b=>∃ a c k,x=mkR a k/\QQ a c/\QeD a c k/\nuR c k<f/\a.seq+nuR c k<=4294967294/\b=Qd5 n f a k) (λs b u=>?_) (λf s b u=>?_) 300 _ _ ⟨h,B,⟨0,false,0⟩,rfl,H,cur_0 H,by rw[nuR_0];omega,by rw[nuR_0];omega,rfl⟩) rfl
 ·obtain ⟨_,_,_,_,_,_,E,_⟩:=u;omega
 obtain ⟨a,c,k,rfl,j,p,E,Q,rfl⟩:=u;obtain ⟨F,R,G,J,L⟩:=chs_spec j p;have i:=j.blen;rw[rndN_succ];refine Gd.bndR (P:=λz=>(z = .inl ()/\¬ QgS a n)\/(z = .inr (.out (a,false))/\QgS a n)) ?_ (λ_ d=>?_) (λr d=>?_)
 ·refine .ite (λv=>?_) λv=>.some (.inl ⟨rfl,λe=>v e.1⟩);have q:1<=n/\n<=1000:=by omega
  refine .call (wants_c j q) ?_;refine .ite (λw=>.some (.inl ⟨rfl,λe=>e.2.1 (of_decide_eq_true w)⟩)) λw=>?_;refine .call (over_c j) ?_;rw[Wb];refine .ite (λA=>.some (.inr ⟨rfl,v,λe=>w (decide_eq_true e),Un Oo⟩)) λA=>.some (.inl ⟨rfl,λe=>A (by rw[e.2.2];rfl)⟩)
 ·rcases d with ⟨_,t⟩ | ⟨d,_⟩
  ·rw[if_neg t];refine .call (choose_c j ⟨p.lo,by rw[i];exact p.hi⟩) ?_;refine .ite (λl=>.some (.inr (by rw[if_pos (show (Qdw a k).2.2=true from l)];rfl))) λl=>?_;have l:¬ (Qdw a k).2.2=true:=l;rw[if_neg l];refine .ite (λg=>.some (.inr (by
    have g:((Qdw a k).1.length:Int)=0:=g
    rw[if_pos (show (Qdw a k).1.length=0 by omega)];rfl))) λg=>?_
   have g:¬ ((Qdw a k).1.length:Int)=0:=g;have g:¬ (Qdw a k).1.length=0:=by omega
   rw[if_neg g];obtain ⟨_,o⟩:=L g;obtain ⟨C,K,N,T,M,X⟩:=step_x j o Oo;obtain ⟨O,S⟩:=step_cur X p F G J o;have D:=X.seqs;have m:=do_c j (Qdw a k).1 (by have:=o.len;omega) Oo;rw[if_pos o.tgt,if_pos o.sum]at m;refine .call m (.pos rfl (.some (.inl ⟨_,rfl,ZW a (Qdw a k).1,ZJ c C N T,(Qdw a k).2.1,rfl,X.inv,O,Oo,Oo,rfl⟩)))
  ·cases d
 ·rcases d with ⟨d,_⟩ | ⟨d,t⟩
  ·cases d
  ·injection d with d;rw[if_pos t];exact .inr d
theorem full_c{h:Hp}{b:List (List Itm)}(H:QQ h b)(a:h.seq+256<=4294967294):XU h=some (Qd5 0 300 h ⟨0,false,0⟩):=by unfold XU;rw[round_c H (.inl rfl) a];rfl
theorem QQ.of{h a:Hp}{f:List (List Itm)}(H:QQ h f)(d:a.config=h.config)(b:a.space=h.space)(z:a.belts=h.belts)(g:a.seq=h.seq)(c:a.sets=h.sets)(e:a.roots=h.roots):QQ a f:=by obtain ⟨i,j,k,l,m,n,o,p,q,r,s,t,u,v,w,x,y⟩:=H;exact ⟨by rw[d];exact i,by rw[z];exact j,by rw[d];exact k,by rw[b];exact l,m,n,o,by rw[g];exact p,by rw[g];exact q,by rw[e];exact r,by rw[e,b];exact s,by rw[b];exact t,by rw[c];exact u,by rw[c];exact v,by rw[c,b];exact w,by rw[c,b];exact x,by rw[d,b];exact y⟩
theorem QcM.perm{s:Sp}{L c:List Itm}(h:QcM s L)(p:L.Perm c):QcM s c :=
 ⟨h.ok,h.w,λx a=>h.each x (p.mem_iff.2 a),(p.pairwise_iff λk e=>k e.symm).1 h.seqs,λk d f=>by
  obtain ⟨x,a,b⟩:=h.all k d f
  exact ⟨x,p.mem_iff.1 a,b⟩⟩
def Qgv(h:Hp)(i:Inc)(r d:Int):Int:=(GoR ⟨h.space.sh,h.space.ws,Zo h.space i (1+r+d)⟩ ((grw h.space i (1+r+d)).first*2^h.space.sh.toNat) i.words).1
def putS(h:Hp)(i:Inc)(r d:Int):Sp:=⟨h.space.sh,clrL ⟨h.space.sh,h.space.ws,Zo h.space i (1+r+d)⟩ (Qgv h i r d) (r+d).toNat (h.space.ws.set (Qgv h i r d).toNat (hdW r d)),Zo h.space i (1+r+d)⟩
def QfW(h:Hp)(a:Int)(i:Inc)(r d:Int):Hp := ⟨h.config,putS h i r d,if a=2 then addB h.belts (grw h.space i (1+r+d)) else repB h.belts (grw h.space i (1+r+d)),if a=2 then w64 (h.seq+1) else h.seq,h.sets,h.roots,h.since, ⟨w64 (h.stats.allocated+(1+r+d)),w64 (h.stats.objects+1),h.stats.collections,h.stats.steps,h.stats.rounds,h.stats.condemned,h.stats.copied,h.stats.entries,h.stats.work⟩,h.dead⟩
structure XH(h:Hp)(BL:List (List Itm))(kind:Int)(x:Itm)(r d:Nat):Prop where
 H:QQ h BL
 it:Qa6 h.space x
 r15:r<=15
 d32:d<=32
 room:exN h.space x.i ((1+r+d:Nat):Int)<=(Qk h.space.fs).length
 resv:CplP h.config->2*(h.space.fs.length-(Qk h.space.fs).length+exN h.space x.i ((1+r+d:Nat):Int))<=h.space.fs.length
 how:(kind=1/\x∈BL.flatten)\/(kind=2/\x=newI h.seq 0)
 q:h.seq<=4294967294
theorem exN_cl{s:Sp}(a:Qdx s){i:Inc}{n:Int}(b:0<=i.words/\i.words<=s.ws.length)(c:1<=n/\n<=48):(exN s i n:Int)=clN s (i.words+n)-clN s i.words:=(exN_ok a b c).1.symm
theorem plan_x{h:Hp}{s:List (List Itm)}(H:QQ h s){r d:Nat}(C:r<=15)(A:d<=32)(B:h.seq<=4294967294){k:Int}{i:Inc}(a:XE h ((1+r+d:Nat):Int)=(k,i))(u:¬ k=3):∃ x,x.i=i/\XH h s k x r d:=by
 unfold XE at a;cases hc:candR h with
 | none=>rw[hc]at a;injection a with c o;exact absurd c.symm u
 | some p =>
  obtain ⟨t,w⟩:=p;rw[hc]at a;dsimp only at a;split at a
  ·rename_i hg;injection a with c o;subst c;subst o;obtain ⟨x,hxi,hX,how⟩:∃ x:Itm,x.i=w/\Qa6 h.space x/\((t=1/\x∈s.flatten)\/(t=2/\x=newI h.seq 0)):=by
    rcases candR_in H hc with ⟨m,y,_⟩ | ⟨m,z⟩
    ·obtain ⟨x,g,e,_⟩:=H.yng y;exact ⟨x,e,H.sp.each x g,.inl ⟨m,g⟩⟩
    ·have:=H.sp.add (q:=h.seq) (b:=0) ⟨H.sq0,Oo⟩ ⟨Oo,Oo⟩ λx g=>by have:=H.sq x g;omega
     exact ⟨newI h.seq 0,z.symm,this.each _ (Wj _ (Wn.2 rfl)),.inr ⟨m,rfl⟩⟩
   subst hxi;have j:=hX.inc.wd;have l:=exN_cl H.sp.ok.shp j (n:=((1+r+d:Nat):Int)) ⟨Oo,Oo⟩;have v:=free_le h.space.fs;unfold GrnP usdF at hg;rw[<- l]at hg;refine ⟨x,rfl,H,hX,C,A,?_,λf=>?_,how,B⟩
   ·rcases hg with hg | hg
    ·omega
    ·have:=hg.1;omega
   ·have D:=H.resv f;rcases hg with hg | hg
    ·omega
    ·have:=hg.2.1 f;omega
  ·injection a with c o;exact absurd c.symm u
section
variable{h:Hp}{BL:List (List Itm)}{kind:Int}{x:Itm}{r d:Nat}
noncomputable abbrev QaW(h:Hp)(x:Itm)(r d:Nat):Itm:=aloX h.space x r d
def Qbw(b:List (List Itm))(a:Int)(x c:Itm):List (List Itm):=if a=2 then b.modify 0 λq=>q++[c] else b.map λq=>q.map (QdD x c)
theorem XH.cast(X:XH h BL kind x r d):(1+(r:Int)+d)=((1+r+d:Nat):Int):=by push_cast;rfl
theorem XH.gk(X:XH h BL kind x r d):GrwOk h.space x.i x.fr ((1+r+d:Nat):Int):=QgL X.H.sp.ok X.it.inc ⟨Oo,by have:=X.r15;have:=X.d32;omega⟩ X.room
theorem XH.ats(X:XH h BL kind x r d):Qgv h x.i r d=((adr (szS h.space) (QaW h x r d).fr x.i.words.toNat:Nat):Int):=by unfold Qgv;rw[X.cast,X.gk.at X.H.sp.ok X.it.inc ⟨Oo,by have:=X.r15;have:=X.d32;omega⟩ X.room];rfl
theorem XH.space(X:XH h BL kind x r d):putS h x.i r d=QdF h.space x r d:=by unfold putS QdF iniW;rw[X.ats,X.cast,Wd,show ((r:Int)+d).toNat=r+d by omega];rfl
theorem XH.own(X:XH h BL kind x r d):Zn (QdF h.space x r d)/\SpW (QdF h.space x r d)/\Qa6 (QdF h.space x r d) (QaW h x r d):=alo_own X.H.sp.ok X.H.sp.w X.it X.r15 X.d32 X.room
theorem XH.z(X:XH h BL kind x r d):szS (QdF h.space x r d)=szS h.space:=rfl
theorem XH.i(X:XH h BL kind x r d):(QaW h x r d).i.seq=x.i.seq/\(QaW h x r d).i.belt=x.i.belt/\(QaW h x r d).i.words=x.i.words+(1+r+d):=by have:=X.gk.same;exact ⟨this.2.1,this.2.2,by show (grw h.space x.i ((1+r+d:Nat):Int)).words=_;rw[this.1];push_cast;omega⟩
theorem XH.bl0(X:XH h BL kind x r d):0<BL.length:=by have:=X.H.cfg.len;have:=X.H.bn;omega
theorem XH.perm(X:XH h BL kind x r d):∃ A B,(∀ y∈A++B,y∈BL.flatten/\y≠x)/\(∀ y∈BL.flatten,y=x\/y∈A++B)/\QcM h.space (A++x :: B)/\(A++QaW h x r d :: B).Perm (Qbw BL kind x (QaW h x r d)).flatten:=by
 unfold Qbw;rcases X.how with ⟨e,g⟩ | ⟨e,j⟩
 ·subst e;rw[if_neg Od];obtain ⟨A,B,a⟩:=List.append_of_mem g;have i:=X.H.sp.seqs;rw[a]at i;have c:∀ y∈A++B,y≠x:=λy hy e=>by
   obtain ⟨_,m,n⟩:=Ve.1 i;rcases Wk.1 hy with hy | hy
   ·exact n y hy x (WH ..) (by rw[e])
   ·exact (Vw.1 m).1 y hy (by rw[e])
  refine ⟨A,B,λy hy=>⟨?_,c y hy⟩,λy hy=>?_,by rw[<- a];exact X.H.sp,?_⟩
  ·rw[a];rcases Wk.1 hy with hy | hy
   ·exact Wg _ hy
   ·exact Wj _ (Wp _ hy)
  ·rw[a]at hy;rcases Wk.1 hy with hy | hy
   ·exact .inr (Wg _ hy)
   ·rcases Wu.1 hy with hy | hy
    ·exact .inl hy
    ·exact .inr (Wj _ hy)
  ·rw[<- Yr,a,WP,Vj];have k:A.map (QdD x (QaW h x r d))=A:=by refine (W7 λy hy=>?_).trans (Y6 A);unfold QdD;rw[if_neg (c y (Wg _ hy))];rfl
   have l:B.map (QdD x (QaW h x r d))=B:=by refine (W7 λy hy=>?_).trans (Y6 B);unfold QdD;rw[if_neg (c y (Wj _ hy))];rfl
   rw[k,l,show QdD x (QaW h x r d) x=QaW h x r d from by unfold QdD;rw[if_pos rfl]]
 ·subst e;rw[if_pos rfl];have f:=X.H.sp.add (q:=h.seq) (b:=0) ⟨X.H.sq0,by have:=X.q;omega⟩ ⟨Oo,Oo⟩ λx g=>by have:=X.H.sq x g;omega
  refine ⟨BL.flatten,[],λy hy=>?_,λy hy=>.inr (by simpa using hy),by rw[j];exact f,(Qga _ _ _ X.bl0).symm⟩;rw[W6]at hy;refine ⟨hy,λe=>?_⟩;have:=X.H.sq y hy;rw[e,j]at this;dsimp only at this;omega
theorem XH.sp(X:XH h BL kind x r d):QcM (QdF h.space x r d) (Qbw BL kind x (QaW h x r d)).flatten:=by obtain ⟨A,B,_,_,a,b⟩:=X.perm;exact (alo_inv a X.r15 X.d32 X.room).perm b
theorem XH.mem(X:XH h BL kind x r d){y:Itm}:y∈(Qbw BL kind x (QaW h x r d)).flatten<->y=QaW h x r d\/(y∈BL.flatten/\y≠x):=by
 obtain ⟨A,B,b,a,f,c⟩:=X.perm;rw[<- c.mem_iff,Wk,Wu];constructor
 ·rintro (k | k | k)
  ·exact .inr (b y (Wg _ k))
  ·exact .inl k
  ·exact .inr (b y (Wj _ k))
 ·rintro (k | ⟨k,k2⟩)
  ·exact .inr (.inl k)
  ·rcases a y k with e | e
   ·exact absurd e k2
   ·rcases Wk.1 e with e | e
    ·exact .inl e
    ·exact .inr (.inr e)
theorem XH.osI(X:XH h BL kind x r d):obs 0 (QaW h x r d).os=obs 0 x.os++[(x.i.words.toNat,r,d)]:=obs_snoc X.it.lay
theorem XH.room'(X:XH h BL kind x r d):x.i.words.toNat+1+r+d<=(QaW h x r d).fr.length*szS h.space/\x.i.words.toNat<=x.fr.length*szS h.space:=by have a:=X.own.2.2.inc.room X.own.1;have b:=X.it.inc.room X.H.sp.ok;have c:=X.i.2.2;have e:=X.it.inc.wd;rw[X.z]at a;omega
theorem XH.old_adr(X:XH h BL kind x r d){p:Nat}(b:p<x.i.words.toNat):adr (szS h.space) (QaW h x r d).fr p=adr (szS h.space) x.fr p:=by have a:=(Jo X.H.sp.ok.shp.sh).2.2.1;have:=X.room'.2;exact ZL Oo Oo
theorem XH.cases(X:XH h BL kind x r d){y:Itm}(l:y∈(Qbw BL kind x (QaW h x r d)).flatten){p a b:Nat}(hp:(p,a,b)∈obs 0 y.os) :
  (∃ y'∈BL.flatten,(p,a,b)∈obs 0 y'.os/\∀ k,k<=a+b->adr (szS h.space) y.fr (p+k)=adr (szS h.space) y'.fr (p+k))\/(y=QaW h x r d/\p=x.i.words.toNat/\a=r/\b=d):=by
 rcases X.mem.1 l with rfl | ⟨k,_⟩
 ·rw[X.osI]at hp;rcases Wk.1 hp with hp | hp
  ·have e:=X.it.lay.get _ hp;dsimp only at e;left;rcases X.how with ⟨_,f⟩ | ⟨_,g⟩
   ·exact ⟨x,f,hp,λk m=>X.old_adr Oo⟩
   ·rw[g]at hp;cases hp
  ·have:=Wn.1 hp;injection this with i c;injection c with c j;exact .inr ⟨rfl,i,c,j⟩
 ·exact .inl ⟨y,k,hp,λk _=>rfl⟩
theorem XH.objs(X:XH h BL kind x r d){y:Itm}(g:y∈BL.flatten){p a b:Nat}(c:(p,a,b)∈obs 0 y.os) :
  ∃ y'∈(Qbw BL kind x (QaW h x r d)).flatten,(p,a,b)∈obs 0 y'.os/\∀ k,k<=a+b->adr (szS h.space) y'.fr (p+k)=adr (szS h.space) y.fr (p+k):=by
 by_cases e:y=x
 ·subst e;have f:=X.it.lay.get _ c;dsimp only at f;exact ⟨_,X.mem.2 (.inl rfl),by rw[X.osI];exact Wg _ c,λk i=>X.old_adr Oo⟩
 ·exact ⟨y,X.mem.2 (.inr ⟨g,e⟩),c,λk _=>rfl⟩
theorem XH.word(X:XH h BL kind x r d){y:Itm}(b:y∈BL.flatten){p:Nat}(n:p<y.i.words.toNat):(QdF h.space x r d).ws[adr (szS h.space) y.fr p]?=h.space.ws[adr (szS h.space) y.fr p]?:=by
 have o:=(Jo X.H.sp.ok.shp.sh).2.2.1;have f:=X.H.sp.each y b;have g:=f.inc.room X.H.sp.ok;have t:=X.room';have a:=X.gk;refine QcZ (s:=⟨h.space.sh,h.space.ws,Zo h.space x.i ((1+r+d:Nat):Int)⟩) (fr:=(QaW h x r d).fr) (p:=x.i.words.toNat) a.sp.shp a.inc.toIncC.ch a.inc.toIncC.own (by show _<_*szS h.space;omega) (x:=adr (szS h.space) y.fr p) λk u e=>?_;have e:adr (szS h.space) y.fr p=adr (szS h.space) (QaW h x r d).fr (x.i.words.toNat+k):=e;by_cases c:y=x
 ·subst c;rw[<- X.old_adr n]at e;have:=Qcw Oo a.inc.nd (p:=p) (q:=y.i.words.toNat+k) (by show _<(QaW h y r d).fr.length*_;omega) (by show _<(QaW h y r d).fr.length*_;omega) e;omega
 ·have i:=X.sp.each y (X.mem.2 (.inr ⟨b,c⟩));have j:=X.own.2.2;refine Qem Oo (i.inc.toIncC.disj j.inc.toIncC ?_) (p:=p) (q:=x.i.words.toNat+k) Oo Oo e;rw[X.i.1];rcases X.how with ⟨_,l⟩ | ⟨_,m⟩
  ·exact λk=>c (X.H.uniq b l k)
  ·have:=X.H.sq y b;rw[m];show y.i.seq≠h.seq;omega
theorem XH.new0(X:XH h BL kind x r d){k:Nat}(b:1<=k)(c:k<=r+d):wAt (QdF h.space x r d) ((adr (szS h.space) (QaW h x r d).fr (x.i.words.toNat+k):Nat):Int)=0:=by have e:=X.room';have a:=X.gk;have:=iniW_0 (s:=⟨h.space.sh,h.space.ws,Zo h.space x.i ((1+r+d:Nat):Int)⟩) (fr:=(QaW h x r d).fr) (p:=x.i.words.toNat) (r:=r) (d:=d) a.sp.shp a.inc.toIncC.ch a.inc.nd a.inc.toIncC.own (by show _<_*szS h.space;omega) b c;exact Xh this
theorem XH.frame(X:XH h BL kind x r d){y:Itm}(j:y∈BL.flatten){k:Nat}(f:k∈y.fr):∃ (g:k<h.space.fs.length) (c:k<(QdF h.space x r d).fs.length),(QdF h.space x r d).fs[k].ow=h.space.fs[k].ow/\(QdF h.space x r d).fs[k].st=h.space.fs[k].st/\¬ h.space.fs[k].ow = -1:=by
 have b:=(X.H.sp.each y j).inc.toIncC;have g:=b.ch.lt k f;have c:k<(QdF h.space x r d).fs.length:=by show k<(Zo _ _ _).length;rw[X.gk.len];exact g
 refine ⟨g,c,?_⟩;have l:=b.sq;rw[(b.ow k g).2 f,b.st k g f];by_cases e:y=x
 ·subst e;have a:=X.own.2.2.inc.toIncC;have i:k∈(QaW h y r d).fr:=Wg _ f;refine ⟨?_,?_,Oo⟩
  ·rw[(a.ow k c).2 i,X.i.1]
  ·rw[a.st k c i,X.i.1,X.i.2.1]
 ·have a:=(X.sp.each y (X.mem.2 (.inr ⟨j,e⟩))).inc.toIncC;exact ⟨(a.ow k c).2 f,a.st k c f,Oo⟩
theorem XH.belts(X:XH h BL kind x r d):(QfW h kind x.i r d).belts=(Qbw BL kind x (QaW h x r d)).map λq=>q.map Itm.i:=by
 show (if kind=2 then addB h.belts (grw h.space x.i (1+(r:Int)+d)) else repB h.belts (grw h.space x.i (1+(r:Int)+d)))=_;rw[X.cast];have c:=X.i;have g:grw h.space x.i ((1+r+d:Nat):Int)=(QaW h x r d).i:=rfl;rw[g];unfold Qbw;rcases X.how with ⟨e,j⟩ | ⟨e,l⟩
 ·subst e;rw[if_neg Od,if_neg Od];unfold repB;rw[X.H.bl];apply Ud;intro n;rw[Vf,Wh,Wh,Wh];cases hb:BL[n]? with
  | none=>rfl
  | some q =>
   simp only[Wx,VZ];congr 1;obtain ⟨i,rfl⟩:=Wo.1 hb;have b:∀ y∈BL[n],y∈BL.flatten/\y.i.belt=(n:Int):=λy a=>⟨Vu.2 ⟨_,Wc i,a⟩,X.H.blt n i y a⟩;by_cases e:(QaW h x r d).i.belt.toNat=n
   ·rw[if_pos e];unfold repQ;rw[Va,Va];refine W7 λy a=>?_;show (if y.i.seq=(QaW h x r d).i.seq then(QaW h x r d).i else y.i)=(QdD x (QaW h x r d) y).i;unfold QdD;by_cases f:y=x
    ·rw[if_pos f,if_pos (by rw[f,c.1])]
    ·rw[if_neg f,if_neg];rw[c.1];exact λk=>f (X.H.uniq (b y a).1 j k)
   ·rw[if_neg e,Va];refine W7 λy a=>?_;show y.i=(QdD x (QaW h x r d) y).i;unfold QdD;rw[if_neg];rintro rfl;have:=(b y a).2;rw[c.2.1,this]at e;exact e rfl
 ·subst e;rw[if_pos rfl,if_pos rfl];unfold addB;rw[c.2.1,show x.i.belt.toNat=0 from by rw[l];rfl,X.H.bl];apply Ud;intro n;rw[Vf,Wh,Wh,Vf];cases BL[n]? with
  | none=>rfl
  | some q =>simp only[Wx,VZ];split <;> simp
end
section
variable{h:Hp}{BL:List (List Itm)}{kind:Int}{x:Itm}{r d:Nat}
theorem XH.blen(X:XH h BL kind x r d):(Qbw BL kind x (QaW h x r d)).length=BL.length:=by
 unfold Qbw;split
 ·rw[Yg]
 ·rw[Wb]
theorem XH.slot(X:XH h BL kind x r d){q:Nat}(t:QaX (szS h.space) (Qbw BL kind x (QaW h x r d)).flatten q) :
  (QaX (szS h.space) BL.flatten q/\wAt (QdF h.space x r d) (q:Int)=wAt h.space (q:Int))\/wAt (QdF h.space x r d) (q:Int)=0:=by
 obtain ⟨y,m,p,a,b,n,k,i,o,rfl⟩:=t;rcases X.cases m n with ⟨j,c,e,s⟩ | ⟨rfl,rfl,rfl,rfl⟩
 ·rw[s k Oo];refine .inl ⟨⟨j,c,p,a,b,e,k,i,o,rfl⟩,?_⟩;have f:=X.H.sp.each j c;have u:=Itm.posOk X.H.sp.ok f e;have l:=f.lay.get _ e;dsimp only at l;have g:=QaJ X.H.sp.ok.shp f.inc.ch.lt (p:=p+k) Oo;exact wAt_opt (X.word c (p:=p+k) Oo) g
 ·exact .inr (X.new0 i Oo)
theorem XH.slots(X:XH h BL kind x r d){q:Nat}(n:QaX (szS h.space) BL.flatten q):QaX (szS h.space) (Qbw BL kind x (QaW h x r d)).flatten q:=by obtain ⟨y,f,p,a,b,g,k,i,j,rfl⟩:=n;obtain ⟨l,c,e,m⟩:=X.objs f g;exact ⟨l,c,p,a,b,e,k,i,j,(m k Oo).symm⟩
theorem XH.objz(X:XH h BL kind x r d){a r' d':Nat}(j:ObjZ (szS h.space) BL.flatten a r' d'):ObjZ (szS h.space) (Qbw BL kind x (QaW h x r d)).flatten a r' d':=by obtain ⟨y,e,p,f,rfl⟩:=j;obtain ⟨g,b,c,i⟩:=X.objs e f;exact ⟨g,b,p,c,by have:=i 0 Oo;rw[Vz]at this;exact this.symm⟩
theorem XH.refw(X:XH h BL kind x r d){w:Int}(a:RefW (szS h.space) BL.flatten w):RefW (szS h.space) (Qbw BL kind x (QaW h x r d)).flatten w:=by
 rcases a with k | ⟨k,b,c,a⟩
 ·exact .inl k
 ·exact .inr ⟨k,b,c,X.objz a⟩
theorem XH.new(X:XH h BL kind x r d):ObjZ (szS h.space) (Qbw BL kind x (QaW h x r d)).flatten (Qgv h x.i r d).toNat r d:=by rw[X.ats,Wd];exact ⟨_,X.mem.2 (.inl rfl),x.i.words.toNat,by rw[X.osI];exact Wj _ (Wn.2 rfl),rfl⟩
theorem XH.ownf(X:XH h BL kind x r d){k:Nat}(g:k<h.space.fs.length)(i:¬ h.space.fs[k].ow = -1):∃ (b:k<(QdF h.space x r d).fs.length),(QdF h.space x r d).fs[k].ow=h.space.fs[k].ow/\(QdF h.space x r d).fs[k].st=h.space.fs[k].st:=by obtain ⟨y,c,a⟩:=X.H.sp.all k g i;obtain ⟨_,b,e,f,_⟩:=X.frame c a;exact ⟨b,e,f⟩
theorem XH.seqE(X:XH h BL kind x r d):(QfW h kind x.i r d).seq=if kind=2 then h.seq+1 else h.seq:=by show (if kind=2 then w64 (h.seq+1) else h.seq)=_;have:=X.q;have:=X.H.sq0;rw[Qb Oo]
theorem XH.inv(X:XH h BL kind x r d):QQ (QfW h kind x.i r d) (Qbw BL kind x (QaW h x r d)):=by
 have s:(QfW h kind x.i r d).space=QdF h.space x r d:=X.space;have G:szS (QfW h kind x.i r d).space=szS h.space:=by rw[s];exact X.z
 have m:=X.i;have hq:=X.q;have R:=X.H.sq0;have B:=X.seqE;refine ⟨X.H.cfg,X.belts,X.blen.trans X.H.bn,by rw[s];exact X.sp,λy hy=>?_,?_,?_,λy hy=>?_,?_,X.H.rts,λi m=>?_,λq F=>?_,X.H.sok,X.H.sin,λf t q K=>?_,λq F g=>?_,λhc=>?_⟩
 ·rcases X.mem.1 hy with rfl | ⟨k,_⟩
  ·have:=X.it.inc.wd.1;have:=m.2.2;show 1<=(QaW h x r d).i.words;omega
  ·exact X.H.pos y k
 ·intro b A y hy;have j:b<BL.length:=by rw[<- X.blen];exact A
  have c:(Qbw BL kind x (QaW h x r d))[b]?=some (Qbw BL kind x (QaW h x r d))[b]:=Wa A;generalize hq':(Qbw BL kind x (QaW h x r d))[b]=q at hy c;unfold Qbw at c;rcases X.how with ⟨e,I⟩ | ⟨e,E⟩
  ·rw[if_neg Oo,Wh,Wa j,Wx]at c;injection c with c;rw[<- c]at hy;obtain ⟨z,w,rfl⟩:=Wm.1 hy;have:=X.H.blt b j z w;unfold QdD;split
   ·rename_i e;rw[m.2.1,<- e];exact this
   ·exact this
  ·rw[if_pos e,Vf,Wa j]at c;simp only[VZ,Wx]at c;injection c with c;rw[<- c]at hy;split at hy
   ·rename_i e;rcases Wk.1 hy with hy | hy
    ·exact X.H.blt b j y hy
    ·rw[Wn.1 hy,m.2.1,E];subst e;rfl
   ·exact X.H.blt b j y hy
 ·intro q l;unfold Qbw at l;rcases X.how with ⟨e,I⟩ | ⟨e,E⟩
  ·rw[if_neg Oo]at l;obtain ⟨p,u,rfl⟩:=Wm.1 l;rw[Vs];have C:∀ y,(QdD x (QaW h x r d) y).i.seq=y.i.seq:=λy=>by
    unfold QdD;split
    ·rename_i e;rw[e,m.1]
    ·rfl
   exact (X.H.asc p u).imp λk=>by rw[C,C];exact k
  ·rw[if_pos e]at l;obtain ⟨n,g⟩:=W8.1 l;rw[Vf]at g;cases A:BL[n]? with
   | none=>rw[A]at g;cases g
   | some p =>
    rw[A]at g;simp only[VZ,Wx]at g;injection g with g;have D:=Wq A;have u:=X.H.asc p D;rw[<- g];split
    ·rw[Ve];refine ⟨u,UQ _ _,λy hy z w=>?_⟩;rw[Wn.1 w,m.1,E];exact X.H.sq y (Vu.2 ⟨p,D,hy⟩)
    ·exact u
 ·rw[B];rcases X.mem.1 hy with rfl | ⟨k,_⟩
  ·show (QaW h x r d).i.seq<_;rw[m.1];rcases X.how with ⟨e,I⟩ | ⟨e,E⟩
   ·rw[if_neg Oo];exact X.H.sq x I
   ·rw[if_pos e,E];show h.seq<h.seq+1;omega
  ·have:=X.H.sq y k;split <;> omega
 ·rw[B];split <;> omega
 ·obtain ⟨o,a,b,v⟩:=X.H.roots i m;rw[G];exact ⟨o,a,b,X.objz v⟩
 ·rw[G]at F ⊢;rw[s];rcases X.slot F with ⟨o,v⟩ | k
  ·rw[v];exact X.refw (X.H.refs q o)
  ·exact .inl k
 ·obtain ⟨o,v,Y,Z,N⟩:=X.H.snd f t q K;rw[G];obtain ⟨O,P,_⟩:=X.ownf Y N;refine ⟨X.slots o,by rw[s];exact v,?_⟩;rw[s];exact ⟨O,Z,by rw[P];exact N⟩
 ·rw[G]at F;rw[s]at g ⊢;rcases X.slot F with ⟨o,v⟩ | k
  ·have H:=X.H.refs q o;rw[v]at g ⊢;obtain ⟨⟨Q,n2,n3,n4⟩,O,P,o1,o2,o3⟩:=g;have L:(QdF h.space x r d).ws.length=h.space.ws.length:=by have M:=X.own.1.shp.wl;have S:=X.H.sp.ok.shp.wl;have T:(QdF h.space x r d).fs.length=h.space.fs.length:=X.gk.len;rw[M,S,T,X.z]
   obtain ⟨y,hy,p,a,b,u,k,j1,j2,e⟩:=o;obtain ⟨f1,f2⟩:=ZI X.H.sp.ok (X.H.sp.each y hy) u (k:=k) Oo (q:=(q:Int)) Oo Oo;rcases H with H | ⟨aa,a',b',z,w,p',J,e'⟩
   ·exact absurd H Q
   ·obtain ⟨f3,f4⟩:=ZI X.H.sp.ok (X.H.sp.each z w) J (k:=0) Oo (q:=wAt h.space (q:Int)-1) Oo e';obtain ⟨a1,a2,a3,a4,a5⟩:=X.frame hy f1;obtain ⟨b1,b2,b3,b4,b5⟩:=X.frame w f3;exact X.H.cmp q ⟨y,hy,p,a,b,u,k,j1,j2,e⟩ ⟨⟨Q,by rw[<- L];exact n2,n3,by rw[<- L];exact n4⟩,a1,b1,a5,b5,lt_sub o3 b4 a4⟩
  ·exact absurd k g.1.1
 ·have M:=X.resv hc;have hl:=X.gk.len;have U:=congrArg List.length X.gk.free;rw[Wv]at U;have V:=X.room;rw[s];show 2*((Zo h.space x.i ((1+r+d:Nat):Int)).length-(Qk (Zo h.space x.i ((1+r+d:Nat):Int))).length)<=(Zo h.space x.i ((1+r+d:Nat):Int)).length;have W:=free_le h.space.fs;omega
end
end Go.Proofs.YthadnbdbfpggdaaGreatDoor
