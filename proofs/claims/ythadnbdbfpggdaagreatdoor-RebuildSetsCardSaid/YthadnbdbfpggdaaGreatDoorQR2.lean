/- Parts of the proof. No condition. -/
import Derived.Test.YthadnbdbfpggdaaGreatDoorQR0
import Derived.Test.YthadnbdbfpggdaaGreatDoorQR1
import Derived.KernelRfl
import Derived.Laws.StructEq
import Derived.IntWalk
import Derived.ChangeSlices
import Derived.Deep.Slices
import Derived.Below
import Derived.Test.YthadnbdbfpggdaaGreatDoorRows
import Derived.OpenShut
import Derived.LaidMore
import Derived.Lay
import Derived.LaidOnce
import Derived.Maps.AppendAt
import Derived.Deep.QuietTactic
import Derived.BigQuiet
import Derived.Shelf.Spec.SlicesInsertGrow
import Derived.Laws.Externs
noncomputable section
namespace Go.Proofs.YthadnbdbfpggdaaGreatDoor
open Go.RowKit
set_option linter.unusedSimpArgs false
set_option linter.unusedVariables false
theorem Qc0{α:Type}{l:List α}{i:Nat}{a:α}(h:l[i]?=some a):i<l.length:=by
 rcases Ws i l.length with h' | h'
 ·exact h'
 ·rw[Wi h']at h;cases h
def setC(a:List (List DV))(i j:Nat)(d:DV):List (List DV):=a.set i ((a.getD i []).set j d)
theorem QfU{a:List (List DV)}{i j:Nat}{x:List DV}{q d:DV}(o:a[i]?=some x)(r:x[j]?=some q){l k:Nat}{n:List DV}{d':DV}(b:(setC a i j d)[l]?=some n)(c:n[k]?=some d') :
  (l=i/\k=j/\d'=d)\/(¬ (l=i/\k=j)/\∃ x0,a[l]?=some x0/\x0[k]?=some d'):=by
 have p:=Qc0 o;have m:=Qc0 r;unfold setC at b;have e:a.getD i []=x:=by rw[VM,o];rfl
 rw[e]at b;by_cases f:l=i
 ·subst f;rw[WN p]at b;injection b with b;subst b;by_cases g:k=j
  ·subst g;rw[WN m]at c;injection c with c;exact .inl ⟨rfl,rfl,c.symm⟩
  ·rw[WK (λh=>g h.symm)]at c;exact .inr ⟨λh=>g h.2,x,o,c⟩
 ·rw[WK (λh=>f h.symm)]at b;exact .inr ⟨λh=>f h.1,n,b,c⟩
theorem setC_sz{a:List (List DV)}{i j:Nat}{x:List DV}{d:DV}(f:a[i]?=some x){z:Nat}(h:∀ (i:Nat) x,a[i]?=some x->x.length=z){g:Nat}{k:List DV}(b:(setC a i j d)[g]?=some k):k.length=z:=by
 have e:a.getD i []=x:=by rw[VM,f];rfl
 unfold setC at b;rw[e]at b;by_cases c:g=i
 ·subst c;rw[WN (Qc0 f)]at b;injection b with b;subst b;rw[Ww];exact h _ _ f
 ·rw[WK (λh=>c h.symm)]at b;exact h _ _ b
theorem setC_len{a:List (List DV)}{i j:Nat}{d:DV}:(setC a i j d).length=a.length:=by simp[setC]
section
variable{F:Fm}{m:Mem}
theorem QaD{a:Ob}{g cap:Nat}(r:Row m a g cap){i j:Nat}{x:List DV}{d:DV}(l:a.els[i]?=some x)(k:x[j]?=some d):∃ u,m.w.cell? ⟨g,i*a.esz+j,none⟩=some u/\Qhl m a.arr u d:=by obtain ⟨b,T,c,n,e⟩:=r.cells;obtain ⟨u,f,h⟩:=e i x j d l k;exact ⟨u,by rw[cell_of_row m.w g _ b T (0,0) c];exact f,h⟩
theorem Qdo{m':Mem}{a ob':Ob}{g cap:Nat}(r:Row m a g cap)(v:m'.w=m.w)(e:ob'.esz=a.esz)(p:ob'.els.length=a.els.length)(q:∀ (i:Nat) x,ob'.els[i]?=some x->x.length=a.esz)
  (h:∀ (i:Nat) x (j:Nat) d u,ob'.els[i]?=some x->x[j]?=some d->m.w.cell? ⟨g,i*a.esz+j,none⟩=some u->Qhl m' ob'.arr u d):Row m' ob' g cap:=by obtain ⟨b,T,l,s,t⟩:=r.cells;refine ⟨⟨b,T,by rw[v];exact l,by rw[e];exact s,λi x j d c o=>?_⟩,by rw[p];exact r.len,r.max,by rw[e];exact r.pos,λi x c=>by rw[e];exact q i x c⟩;have f:=Qc0 c;rw[p]at f;have k:=r.sz i _ (Wa f);have w:=q i x c;have y:=Qc0 o;obtain ⟨u,n,_⟩:=t i _ j _ (Wa f) (Wa (show j<a.els[i].length by omega));rw[e];exact ⟨u,n,h i x j d u c o (by rw[cell_of_row m.w g _ b T (0,0) l];exact n)⟩
theorem deep_split(hI:Inv F m){s t:Nat}{w:Ob}(hs:QH m s w)(ha:w.arr=false)(ht:m.σ t=none){i j z:Nat}{x:List DV}{l:List (List DV)}(A:w.els[i]?=some x)(hj:x[j]?=some (.dp z l)) :
  ∃ m' e g cap u,m'.w=m.w/\m'.M=m.M/\Inv F m'/\Loc [s,t] m m'/\m.σ s=some (some e)/\e.blk=some (g,cap)/\m.w.cell? ⟨g,i*w.esz+j,none⟩=some u/\Rep m' u (.own t 0 l.length) /\
   QH m' s { w with els:=setC w.els i j (.own t 0 l.length) }/\QH m' t ⟨z,true,w.frz,l⟩:=by
 obtain ⟨e,K,h2,h3,W⟩:=hs;have H:s≠t:=λh=>by subst h;rw[K]at ht;cases ht
 cases G:e.blk with
 | none =>rw[G]at W;rw[W.1]at A;simp at A
 | some p =>
  obtain ⟨g,cap⟩:=p;rw[G]at W;obtain ⟨r,B,d1,d2⟩:=W;obtain ⟨u,u1,L⟩:=d1 i x j z l A hj;let e':Ent:={ e with inn:=λk=>e.inn k/\B i j≠some k };have aa:∃ f:Ent,f.esz=z/\f.mu=e.mu/\f.inn=noI/\(∀ k,f.has k->B i j=some k/\e.inn k)/\(∀ m':Mem,m'.w=m.w->Ext m m'->m'.σ t=some (some f)->Rep m' u (.own t 0 l.length)/\QH m' t ⟨z,true,w.frz,l⟩):=by
   cases E:B i j with
   | none =>rw[E]at L;obtain ⟨rfl,rfl,hz⟩:=L;exact ⟨⟨z,none,e.mu,noI⟩,rfl,rfl,rfl,λk h=>by rcases h with ⟨c,h⟩ | h;cases h;exact h.elim,λm' hw he U=>⟨.ownNil U rfl,⟨_,U,rfl,h3,rfl,hz⟩⟩⟩
   | some b =>
    rw[E]at L;obtain ⟨o,X,rfl,q⟩:=L;refine ⟨⟨z,some (b,X),e.mu,noI⟩,rfl,rfl,rfl,λk h=>?_,λm' hw he U=>⟨?_,⟨_,U,rfl,h3,?_⟩⟩⟩
    ·rcases h with ⟨c,h⟩ | h
     ·injection h with h;injection h with h _;subst h;exact ⟨rfl,o⟩
     ·exact h.elim
    ·have:=Rep.own (m:=m') (off:=0) (len:=l.length) U rfl (by have:=q.len;dsimp only at this ⊢;omega) q.max;simpa using this
    ·have O:Row m' ⟨z,true,w.frz,l⟩ b X:=Qdo q hw rfl rfl q.sz (λi x j d u A hd T=>by
      obtain ⟨u',M,R⟩:=QaD q A hd
      rw[show i*(⟨z,true,false,l⟩:Ob).esz+j=i*z+j from rfl]at M T
      rw[M]at T
      injection T with T
      subst T
      exact R.ext he)
     exact ⟨O,O.deep rfl _⟩
  obtain ⟨f,t1,t2,t3,t4,t5⟩:=aa;have y:∀ n∈[s,t],∀ C,Z3 (Z3 m.σ s (some e')) t (some f) n=some (some C)->(n=s/\C=e')\/(n=t/\C=f):=λn hs1 C h=>by
   rcases Wu.1 hs1 with rfl | hs1
   ·rw[Zi _ _ H,Qh]at h;injection h with h;injection h with h;exact .inl ⟨rfl,h.symm⟩
   ·obtain rfl:n=t:=by simpa using hs1
    rw[Qh]at h;injection h with h;injection h with h;exact .inr ⟨rfl,h.symm⟩
  have P:∀ k,e'.has k->e.has k/\B i j≠some k:=λk h=>by
   rcases h with ⟨c,h⟩ | h
   ·refine ⟨.inl ⟨c,h⟩,λE=>?_⟩;have h:e.blk=some (k,c):=h;rw[G]at h;injection h with h;injection h with h _;subst h;rw[E]at L;exact hI.wf s e _ cap K G L.1
   ·exact ⟨.inr h.1,h.2⟩
  have Q:=turn hI [s,t] m.w (Z3 (Z3 m.σ s (some e')) t (some f)) rfl rfl rfl (Wl _) (λ_ _ _=>rfl)
   (λk hk=>by rw[Zi _ _ (λh=>hk (by simp[h])),Zi _ _ (λh=>hk (by simp[h]))])
   (λn hs1 x0 a=>by
    rcases Wu.1 hs1 with rfl | hs1
    ·rw[K]at a
     injection a with a
     subst a
     exact ⟨_,by rw[Zi _ _ H,Qh],λC h=>by injection h with h;subst h;exact ⟨e,rfl,rfl,rfl⟩⟩
    ·obtain rfl:n=t:=by simpa using hs1
     rw[ht]at a;cases a)
   (λn hs1 C k g1 Y=>by
    refine .inl ⟨s,Os,e,K,?_⟩
    rcases y n hs1 C g1 with ⟨rfl,rfl⟩ | ⟨rfl,rfl⟩
    ·obtain ⟨N,S⟩:=P k Y
     refine ⟨N,λh=>h,λs2 I e2 o J=>?_⟩
     rcases y s2 I e2 o with ⟨rfl,_⟩ | ⟨rfl,rfl⟩
     ·rfl
     ·exact absurd (t4 k J).1 S
    ·obtain ⟨N,S⟩:=t4 k Y
     refine ⟨.inr S,λh=>by rw[<- t2];exact h,λs2 I e2 o J=>?_⟩
     rcases y s2 I e2 o with ⟨rfl,rfl⟩ | ⟨rfl,_⟩
     ·exact absurd N (P k J).2
     ·rfl)
   (λn hs1 C g0 c0 g1 Y=>by
    rcases y n hs1 C g1 with ⟨rfl,rfl⟩ | ⟨rfl,rfl⟩
    ·exact λh=>hI.wf n e g0 c0 K Y h.1
    ·rw[t3];exact id)
  have ab:(Z3 (Z3 m.σ s (some e')) t (some f)) s=some (some e'):=by rw[Zi _ _ H,Qh]
  obtain ⟨v1,v2⟩:=t5 ⟨m.w,m.M,Z3 (Z3 m.σ s (some e')) t (some f)⟩ rfl Q.2.toExt (Qh _ _ _);refine ⟨⟨m.w,m.M,Z3 (Z3 m.σ s (some e')) t (some f)⟩,e,g,cap,u,rfl,rfl,Q.1,Q.2,K,G,u1,v1,⟨e',ab,h2,h3,?_⟩,v2⟩;show match e.blk with | none=>_ | some (g,cap)=>_
  rw[G];refine ⟨Qdo (ob':={ w with els:=setC w.els i j (.own t 0 l.length) }) r rfl rfl setC_len (λV x' h=>setC_sz A r.sz h) (λV x' Z d' u' o J q=>?_),B,λV x' Z z' l' o J=>?_,λi1 j1 i2 j2 b G=>d2 i1 j1 i2 j2 b G.1⟩
  ·dsimp only at o ⊢;rcases QfU A hj o J with ⟨rfl,rfl,rfl⟩ | ⟨_,x0,M,R⟩
   ·rw[u1]at q;injection q with q;subst q;obtain ⟨u0,v,D⟩:=QaD r A hj;rw[u1]at v;injection v with v;subst v;refine ⟨D.1,?_⟩;rw[ha];exact v1
   ·obtain ⟨u0,v,D⟩:=QaD r M R;rw[q]at v;injection v with v;subst v;exact D.ext Q.2.toExt
  ·dsimp only at o ⊢;rcases QfU A hj o J with ⟨_,_,h⟩ | ⟨ac,x0,M,R⟩
   ·cases h
   ·obtain ⟨u0,v,D⟩:=d1 V x0 Z z' l' M R;refine ⟨u0,v,?_⟩;cases E:B V Z with
    | none=>rw[E]at D;exact D
    | some b =>rw[E]at D;obtain ⟨N,X,S,p3⟩:=D;exact ⟨⟨N,λh=>ac (d2 V Z i j b N E h)⟩,X,S,p3.ext Q.2.toExt rfl⟩
theorem deep_join(hI:Inv F m){s t:Nat}{G:Ob}{z:Nat}{l:List (List DV)}(hs:QH m s G)(ha:G.arr=false)(hf:G.frz=false)(hh:QH m t ⟨z,true,false,l⟩)(D:s≠t){i j:Nat}{x:List DV}(M:G.els[i]?=some x)(hj:x[j]?=some (.own t 0 l.length)) :
  ∃ m',m'.w=m.w/\m'.M=m.M/\Inv F m'/\Loc [s,t] m m'/\QH m' s { G with els:=setC G.els i j (.dp z l) }/\m'.σ t=some none:=by
 obtain ⟨e,P,h2,h3,T⟩:=hs;cases hb:e.blk with
 | none =>rw[hb]at T;rw[T.1]at M;simp at M
 | some p =>
  obtain ⟨g,Z⟩:=p;rw[hb]at T;obtain ⟨r,B,d1,d2⟩:=T;obtain ⟨u,u1,u2⟩:=QaD r M hj;have u3:Rep m u (.own t 0 l.length):=by have:=u2.2;rw[ha]at this;exact this
  obtain ⟨A,t1,t2,t3,t4⟩:=Jm u3 hh;let e':Ent:={ e with inn:=λk=>e.inn k\/∃ c,A.blk=some (k,c) };have N:∀ k,e.has k->∀ c,A.blk≠some (k,c):=λk V c h=>D (hI.inj s t e A k P t1 V (Ent.has_blk h));have H:∀ a∈[s,t],∀ n,Z3 (Z3 m.σ t none) s (some e') a=some (some n)->a=s/\n=e':=λa hs1 n h=>by
   rcases Wu.1 hs1 with rfl | hs1
   ·rw[Qh]at h;injection h with h;injection h with h;exact ⟨rfl,h.symm⟩
   ·obtain rfl:a=t:=by simpa using hs1
    rw[Zi _ _ (λh=>D h.symm),Qh]at h;cases h
  have O:=turn hI [s,t] m.w (Z3 (Z3 m.σ t none) s (some e')) rfl rfl rfl (Wl _) (λ_ _ _=>rfl)
   (λk V=>by rw[Zi _ _ (λh=>V (by simp[h])),Zi _ _ (λh=>V (by simp[h]))])
   (λa hs1 x0 C=>by
    rcases Wu.1 hs1 with rfl | hs1
    ·rw[P]at C
     injection C with C
     subst C
     exact ⟨_,Qh _ _ _,λn h=>by injection h with h;subst h;exact ⟨e,rfl,rfl,rfl⟩⟩
    ·obtain rfl:a=t:=by simpa using hs1
     exact ⟨none,by rw[Zi _ _ (λh=>D h.symm),Qh],λn h=>by cases h⟩)
   (λa hs1 n k g1 g2=>by
    obtain ⟨rfl,rfl⟩:=H a hs1 n g1
    have X:∀ W∈[a,t],∀ v,Z3 (Z3 m.σ t none) a (some e') W=some (some v)->v.has k->W=a:=λW ac v w _=>(H W ac v w).1
    rcases g2 with g2 | g2 | g2
    ·exact .inl ⟨a,Os,e,P,.inl g2,λh=>h,X⟩
    ·exact .inl ⟨a,Os,e,P,.inr g2,λh=>h,X⟩
    ·exact .inl ⟨t,Os,A,t1,.inl g2,λ_=>by rw[t3];rfl,X⟩)
   (λa hs1 n g0 c0 g1 g2=>by
    obtain ⟨rfl,rfl⟩:=H a hs1 n g1
    rintro (h | ⟨c,h⟩)
    ·exact hI.wf a e g0 c0 P g2 h
    ·exact N g0 (Ent.has_blk g2) c h)
  have I:DpV ⟨m.w,m.M,Z3 (Z3 m.σ t none) s (some e')⟩ e'.inn u z l (A.blk.map (·.1)):=by
   rcases t4 with ⟨g',E,U,rfl,k5,k6⟩ | ⟨U,rfl,_,k5,k6,k7⟩
   ·rw[U];refine ⟨.inr ⟨E,U⟩,E,Os,k6.ext O.2.toExt rfl⟩
   ·rw[U];exact ⟨rfl,k6,k7⟩
  refine ⟨⟨m.w,m.M,Z3 (Z3 m.σ t none) s (some e')⟩,rfl,rfl,O.1,O.2,⟨e',Qh _ _ _,h2,h3,?_⟩,by show Z3 _ _ _ t=_;rw[Zi _ _ (λh=>D h.symm),Qh]⟩;show match e.blk with | none=>_ | some (g,Z)=>_
  rw[hb];classical
  refine ⟨Qdo (ob':={ G with els:=setC G.els i j (.dp z l) }) r rfl rfl setC_len (λd x' h=>setC_sz M r.sz h) (λd x' o d' u' w y S=>?_),
   λd o=>if d=i/\o=j then A.blk.map (·.1) else if (B d o).isSome/\B d o=A.blk.map (·.1) then none else B d o,λd x' o z' l' w y=>?_,λi1 j1 i2 j2 b ad w y=>?_⟩
  ·dsimp only at w ⊢;rcases QfU M hj w y with ⟨rfl,rfl,rfl⟩ | ⟨_,x0,Q,J⟩
   ·rw[u1]at S;injection S with S;subst S;refine ⟨u2.1,?_⟩;rw[ha];exact .dp u
   ·obtain ⟨u0,K,L⟩:=QaD r Q J;rw[S]at K;injection K with K;subst K;exact L.ext O.2.toExt
  ·dsimp only at w ⊢;rcases QfU M hj w y with ⟨rfl,rfl,hd⟩ | ⟨R,x0,Q,J⟩
   ·injection hd with aa ab;subst aa;subst ab;exact ⟨u,u1,by rw[if_pos ⟨rfl,rfl⟩];exact I⟩
   ·obtain ⟨u0,K,L⟩:=d1 d x0 o z' l' Q J;refine ⟨u0,K,?_⟩;rw[if_neg R];cases hB:B d o with
    | none=>rw[hB]at L;rw[if_neg (λh=>by simp at h)];exact L
    | some b =>
     rw[hB]at L;obtain ⟨p1,cp,p2,p3⟩:=L;rw[if_neg (λh=>by
      cases hbt:A.blk with
      | none=>rw[hbt]at h;simp at h
      | some q =>
       obtain ⟨b',c'⟩:=q
       rw[hbt]at h
       have:=h.2
       simp only[Wx,Wz]at this
       subst this
       exact N b (.inr p1) c' hbt)]
     exact ⟨.inl p1,cp,p2,p3.ext O.2.toExt rfl⟩
  ·dsimp only at w y;have f:∀ {d o b},¬ (d=i/\o=j)->(if (B d o).isSome/\B d o=A.blk.map (·.1) then none else B d o)=some b->B d o=some b/\A.blk.map (·.1)≠some b:=λ{d o b} _ h=>by
    split at h
    ·cases h
    ·rename_i hq;exact ⟨h,λh'=>hq ⟨by rw[h];rfl,by rw[h,h']⟩⟩
   by_cases n:i1=i/\j1=j
   ·rw[if_pos n]at w;by_cases v:i2=i/\j2=j
    ·exact ⟨n.1.trans v.1.symm,n.2.trans v.2.symm⟩
    ·rw[if_neg v]at y;exact absurd w (f v y).2
   ·rw[if_neg n]at w;obtain ⟨Q,J⟩:=f n w;by_cases v:i2=i/\j2=j
    ·rw[if_pos v]at y;exact absurd y J
    ·rw[if_neg v]at y;obtain ⟨k3,_⟩:=f v y;have Y:e.inn b:=by
      rcases ad with h | ⟨c,h⟩
      ·exact h
      ·rw[h]at J;exact absurd rfl J
     exact d2 i1 j1 i2 j2 b Y Q k3
theorem holds_unarr{s z:Nat}{f:Bool}{b:List (List DV)}(y:QH m s ⟨z,true,f,b⟩):QH m s ⟨z,false,f,b⟩:=by
 obtain ⟨e,o,q,t,c⟩:=y;refine ⟨e,o,q,t,?_⟩;cases hb:e.blk with
 | none=>rw[hb]at c;exact c
 | some p =>
  obtain ⟨g,v⟩:=p;rw[hb]at c;obtain ⟨r,_⟩:=c;refine ⟨Qdo r rfl rfl rfl r.sz λi x j d u k l n=>?_,Deep.flat λi x j A xs k l=>?_⟩
  ·obtain ⟨w,a,h⟩:=QaD r k l;dsimp only at n a;rw[n]at a;injection a with a;subst a;exact ⟨h.1,.pure h.2⟩
  ·obtain ⟨w,a,h⟩:=QaD r k l;cases h.2
end
section
variable{P:Program}{nt n0:Nat}{env:Env}{sto:Sto}{nxt:Nat}
theorem ZB.att{s t z z0 i j:Nat}{x:List DV}{n f:List (List DV)}{l:List (List DV)}(v:sto.get s=some ⟨z0,false,false,n⟩)(u:sto.get t=some ⟨z,true,false,l⟩)(r:Nat.beq s t=false)(L:n[i]?=some x)(K:x[j]?=some (.own t 0 l.length))(g:setC n i j (.dp z l)=f) :
  ZB n0 ⟨env,sto,nxt⟩ ⟨env,(s,⟨z0,false,false,f⟩) :: sto.drop t,nxt⟩:=λC _ a w I=>by
 subst g
 have o:s≠t:=YP r
 obtain ⟨m,rfl,c,B⟩:=I
 obtain ⟨D,E,F,G,p,H,M⟩:=deep_join c.inv (c.sto s _ v) rfl rfl (c.sto t _ u) o L K
 refine ⟨D,E,⟨G,F.trans c.M,c.size,c.defers,c.org.trans p.ent,c.lim0,λk=>(c.env k).ext p.toExt,λd J b=>?_⟩,λd b=>?_⟩
 ·simp only[Sto.get_cons,Sto.drop_get]at b
  split at b
  ·rename_i h
   subst h
   injection b with b
   subst b
   exact H
  ·rename_i h
   split at b
   ·cases b
   ·rename_i h2
    exact QH.loc c.inv p (by simp[h,h2]) (c.sto d J b)
 ·have q:=B d b
  have y:d≠s:=λh=>by subst h;obtain ⟨e,g,_⟩:=c.sto d _ v;rw[q]at g;cases g
  have A:d≠t:=λh=>by subst h;obtain ⟨e,g,_⟩:=c.sto d _ u;rw[q]at g;cases g
  rw[p.same d (by simp[y,A])]
  exact q
theorem ZB.tell{s:Nat}{e ob':Ob}(j:sto.get s=some e)(h:∀ m:Mem,QH m s e->QH m s ob'):ZB n0 ⟨env,sto,nxt⟩ ⟨env,(s,ob') :: sto,nxt⟩:=λC _ a w g=>by
 obtain ⟨m,rfl,c,f⟩:=g;refine ⟨m,rfl,⟨c.inv,c.M,c.size,c.defers,c.org,c.lim0,c.env,λi d b=>?_⟩,f⟩;simp only[Sto.get_cons]at b;split at b
 ·rename_i h1;subst h1;injection b with b;subst b;exact h m (c.sto _ _ j)
 ·exact c.sto i d b
theorem ZB.unarr{s z0:Nat}{a:List (List DV)}(b:sto.get s=some ⟨z0,true,false,a⟩):ZB n0 ⟨env,sto,nxt⟩ ⟨env,(s,⟨z0,false,false,a⟩) :: sto,nxt⟩:=ZB.tell b λm h=>holds_unarr h
end
section
variable{P:Program}{F:Fm}{m:Mem}{a:Act}{env:Env}{sto:Sto}{nxt:Nat}{o:Oper}
theorem r_ldD{t:Nat}{p:Operand}{r:TyD}{s i j z:Nat}{b:Ob}{x:List DV}{l:List (List DV)}(I:o.op = .load t p)(ht:QB P t r)(w:r.agg=false)(A:r.size=1)(hp:opd env p = .ptr s i j)(hs:sto.get s=some b)(ha:b.arr=false)(hx:b.els[i]?=some x)(hj:x[j]?=some (.dp z l)) :
  Qv P o env sto nxt ⟨.own nxt 0 l.length,[(s,some { b with els:=setC b.els i j (.own nxt 0 l.length) }),(nxt,some ⟨z,true,b.frz,l⟩)],[s],1⟩:=.ran λF m a W X Y Z=>by
 have B:=X p (by simp[I,Op.operands])
 rw[hp]at B
 have C:=Y s Os b hs
 have J:=Z nxt (Wl _) (by show nxt<nxt+1;omega)
 obtain ⟨D,e,g,K,u,k,k2,L,M,N,O,Q,R,S,n⟩:=deep_split W C ha J hx hj
 obtain ⟨e2,g2,E,c,_,_,f,T,q4⟩:=Qch B C
 rw[N]at c
 injection c with c
 injection c with c
 subst c
 rw[O]at f
 injection f with f
 injection f with f V
 subst f
 have h:Qd3 D g (i*b.esz+j) [.own nxt 0 l.length]:=λH d q=>by
  cases H with
  | zero =>simp only[WR,Wz]at q;subst q;exact ⟨u,by rw[k];exact Q,R⟩
  | succ H=>simp at q
 obtain ⟨v,G,U⟩:=load_ok (P:=P) ht h (y:=.own nxt 0 l.length) (by unfold ldD;rw[w,A];rfl)
 rw[k]at G
 refine ⟨v,D,.inl (by rw[k];simp[execOp,I,T,G]),L,M,U,λp hp=>?_⟩
 rcases Wu.1 hp with rfl | hp
 ·exact S
 ·obtain rfl:=Wn.1 hp
  exact n
theorem r_litR{t e len:Nat}{parts:Array (Nat×Operand)}{l:List (Nat×Operand)}{tt b:TyD}{c:List DV}{r r2:List Nat}(Y:o.op = .buildSlice t len parts)(N:parts=l.toArray)(ht:QB P t tt)(hk:tt.k = .slice e)(he:QB P e b)
  (hz:b.zero.length=b.size)(Q:0<b.size)(h1:0<len)(hm:len*b.size<=16777216)
  (h:QdQ sto (λi=>some (i*b.size,b.size)) (QdJ b len) (l.map λp=>(p.1,opd env p.2))=some (c,r))(Z:boxF sto c=some r2) :
  Qv P o env sto nxt ⟨.own nxt 0 len,[(nxt,some ⟨b.size,false,false,QbD len b.size c⟩)],r++r2,1⟩:=.ran λF m a hI hE W hF=>by
 subst N
 obtain ⟨i,z,z1,K,z3,z4,S,z6,_⟩:=QbM he
 have R:=ht.kind
 rw[hk]at R
 have E:z.cells.size=b.size:=by rw[<- hz,<- S];simp
 have G:QZ m sto r:=λs M=>W s (Wg _ M)
 have H:QZ m sto r2:=λs M=>W s (Wj _ M)
 have I:Reps m (madeCells z.cells (len*b.size)).toList (QdJ b len):=by
  refine ⟨by rw[Wt,size_madeCells];simp[QdJ],λj v d D f=>?_⟩;have n:j<len*b.size:=by
   rcases Ws j (len*b.size) with h' | h'
   ·exact h'
   ·rw[Wi (by simpa [QdJ] using h')]at f;cases f
  have u:(madeCells z.cells (len*b.size))[j]?=some v:=by simpa using D
  rw[Qcn Oo n,E]at u;unfold QdJ at f;rw[Wh,VH n]at f;injection f with f;have w:z.cells.toList[j%b.size]?=some v:=by simpa using u
  rw[<- f];dsimp only;rw[<- S,VM,Wh,w];exact .pure (.lit v (z6 v (by simpa using List.mem_of_getElem? w)))
 obtain ⟨U,V,L⟩:=Qgb (parts:=l) (λp N=>hE p.2 (by simp only[Y,Op.operands];simp;exact ⟨p.1,N⟩)) I h G
 rw[U1]at V
 have y:c.length=len*b.size:=by rw[fillD_len h];simp[QdJ]
 have A:=run_buildSlice (P:=P) m.w t e len (l.map λp=>(p.1,a.eval p.2)).toArray U.toArray i z R z1 z4 (by rw[K];omega) (by rw[K];have:=Y5 h1 Q;omega) (by
  rw[K]
  have:(Array.range (len*b.size)).map (λx=>z.cells[x%z.cells.size]!)=madeCells z.cells (len*b.size):=rfl
  rw[this]
  simpa using V)
 have B:len<=maxLen:=by have:len<=len*b.size:=YO _ Q;unfold maxLen;omega
 refine Ran.new hI (hF nxt (Wl _) (by show nxt<nxt+1;omega)) (cur:=U.toArray) (T:=e) (v:=.slice (some ⟨m.w.heap.size,0,none⟩) len len) (cap:=len) ?_ (λX h=>?_) rfl (λX O hg=>?_) (.inr λi x j z' xs g C=>?_)
 ·simp only[execOp,Y]
  rw[show (l.toArray.map λ(x:Nat×Operand)=>match x with | (i,x)=>(i,a.eval x))=(l.map λp=>(p.1,a.eval p.2)).toArray from by simp]
  rw[Sem.run_bind]
  show ((Instr.buildSlice t len _).run P m.w).andThen _=_
  rw[A]
  rfl
 ·have:=Rep.own (m:=X) (off:=0) (len:=len) h rfl Oo B
  simpa using this
 ·refine QdL O (ds:=c) (arr:=false) L.1 (λj v d D f=>⟨box_one (Qe0 Z) H j d v f (L.2 j v d D f),L.2 j v d D f⟩) hg (by rw[y]) Q B (by simp[QbD]) (λj x k=>?_)
  have n:j<len:=by
   rcases Ws j len with h' | h'
   ·exact h'
   ·rw[Wi (by simpa [QbD] using h')]at k;cases k
  unfold QbD at k
  rw[Wh,VH n]at k
  injection k with k
  subst k
  have J:(j+1)*b.size<=len*b.size:=Wy _ n
  rw[Vm]at J
  refine ⟨by rw[Wf,Wv,y];omega,λq d f=>?_⟩
  rw[WM]at f
  split at f
  ·rwa [WW]at f
  ·cases f
 ·dsimp only at g
  have hi:i<len:=by
   rcases Ws i len with h' | h'
   ·exact h'
   ·rw[Wi (by simpa [QbD] using h')]at g;cases g
  unfold QbD at g
  rw[Wh,VH hi]at g
  injection g with g
  subst g
  rw[WM]at C
  split at C
  ·rw[WW]at C
   exact (Qe0 Z).nodp _ _ _ C
  ·cases C
theorem deep_flat(T:Inv F m){s z:Nat}{f:Bool}{y:List (List DV)}(hs:QH m s ⟨z,false,f,y⟩)(hd:∀ x∈y,∀ d∈x,dpB d=true) :
  ∃ m',m'.w=m.w/\m'.M=m.M/\Inv F m'/\Loc [s] m m'/\QH m' s ⟨z,true,f,y.map (·.map undp)⟩:=by
 obtain ⟨e,J,h2,h3,N⟩:=hs;obtain ⟨o,he'⟩:∃ o:Ent,o={ e with inn:=noI }:=⟨_,rfl⟩;have f1:o.esz=e.esz:=by rw[he']
 have K:o.blk=e.blk:=by rw[he']
 have U:o.mu=e.mu:=by rw[he']
 have O:o.inn=noI:=by rw[he']
 clear he';have E:∀ C∈[s],∀ D,Z3 m.σ s (some o) C=some (some D)->C=s/\D=o:=λC w D h=>by
  obtain rfl:C=s:=by simpa using w
  rw[Qh]at h;injection h with h;injection h with h;exact ⟨rfl,h.symm⟩
 have hT:=turn T [s] m.w (Z3 m.σ s (some o)) rfl rfl rfl (Wl _) (λ_ _ _=>rfl) (λk Y=>Zi _ _ (by simpa using Y))
  (λC w x n=>by
   obtain rfl:C=s:=by simpa using w
   rw[J]at n
   injection n with n
   subst n
   exact ⟨_,Qh _ _ _,λD h=>by injection h with h;subst h;exact ⟨e,rfl,f1,K⟩⟩)
  (λC w D k Z g2=>by
   obtain ⟨rfl,rfl⟩:=E C w D Z
   refine .inl ⟨C,Os,e,J,?_,λh=>by rw[<- U];exact h,λs2 aa e2 q _=>(E s2 aa e2 q).1⟩
   rcases g2 with ⟨c,g2⟩ | g2
   ·exact .inl ⟨c,by rw[<- K];exact g2⟩
   ·rw[O]at g2;exact g2.elim)
  (λC w D k c Z _=>by
   obtain ⟨rfl,rfl⟩:=E C w D Z
   rw[O];exact id)
 refine ⟨⟨m.w,m.M,Z3 m.σ s (some o)⟩,rfl,rfl,hT.1,hT.2,⟨_,Qh _ _ _,by rw[f1];exact h2,by rw[U];exact h3,?_⟩⟩;rw[K];cases P:e.blk with
 | none=>rw[P]at N;exact ⟨by rw[show y=[] from N.1];rfl,N.2⟩
 | some p =>
  obtain ⟨g,W⟩:=p;rw[P]at N;obtain ⟨r,B,d1,d2⟩:=N;have L:∀ k,(⟨m.w,m.M,Z3 m.σ s (some o)⟩:Mem).no k->m.no k:=λk h=>by
   rcases h with h | ⟨H,o,a,X,q3⟩
   ·exact .inl h
   ·dsimp only at a;by_cases A:H=s
    ·subst A;rw[Qh]at a;injection a with a;injection a with a;subst a;refine .inr ⟨H,e,J,by rw[<- U];exact X,?_⟩;rcases q3 with ⟨c,q3⟩ | q3
     ·exact .inl ⟨c,by rw[<- K];exact q3⟩
     ·rw[O]at q3;exact q3.elim
    ·rw[Zi _ _ A]at a;exact .inr ⟨H,o,a,X,q3⟩
  have V:∀ b,e.inn b->¬ (⟨m.w,m.M,Z3 m.σ s (some o)⟩:Mem).no b:=λb I h=>by
   rcases h with h | ⟨H,o,a,X,q3⟩
   ·exact (T.at_ s e b J (.inr I)).2.1 h
   ·dsimp only at a;by_cases A:H=s
    ·subst A;rw[Qh]at a;injection a with a;injection a with a;subst a;rcases q3 with ⟨c,q3⟩ | q3
     ·exact T.wf H e b c J (by rw[<- K];exact q3) I
     ·rw[O]at q3;exact q3
    ·rw[Zi _ _ A]at a;exact A (T.inj s H e o b J a (.inr I) q3).symm
  have M:Row ⟨m.w,m.M,Z3 m.σ s (some o)⟩ ⟨z,true,f,y.map (·.map undp)⟩ g W:=Qdo r rfl rfl Os (λi x n=>?_) (λi x j d u n t hu=>?_)
  ·exact ⟨M,M.deep rfl _⟩
  ·rw[Wh]at n;cases hq:y[i]? with
   | none=>rw[hq]at n;cases n
   | some x0 =>rw[hq]at n;injection n with n;subst n;rw[Wb];exact r.sz i x0 hq
  ·rw[Wh]at n;cases hq:y[i]? with
   | none=>rw[hq]at n;cases n
   | some x0 =>
    rw[hq]at n;injection n with n;subst n;rw[Wh]at t;cases hq2:x0[j]? with
    | none=>rw[hq2]at t;cases t
    | some d0 =>
     rw[hq2]at t;injection t with t;subst t;obtain ⟨u',Q,w2⟩:=QaD r hq hq2;rw[hu]at Q;injection Q with Q;subst Q;refine ⟨w2.1,?_⟩;have G:Rep m u d0:=w2.2;have hp:∀ {v d},PRep m.w m.no v d->PRep m.w (⟨m.w,m.M,Z3 m.σ s (some o)⟩:Mem).no v d:=λh=>PRep.ext (Wl _) (λk _ Y=>⟨rfl,λh=>Y (L k h)⟩) h;have P:=hd x0 (Wq hq) d0 (Wq hq2);show PRep m.w _ u (undp d0);cases d0 with
     | lit v=>rw[G.lit_inv];exact .lit v G.lit_one
     | sl xs=>exact hp G.sl_inv
     | dp z' l =>
      obtain ⟨u',R,S⟩:=d1 i x0 j z' l hq hq2;rw[hu]at R;injection R with R;subst R;cases hB:B i j with
      | none =>rw[hB]at S;obtain ⟨rfl,rfl,_⟩:=S;exact .nil _ _ (WO _)
      | some b =>rw[hB]at S;obtain ⟨a,cp,rfl,q3⟩:=S;have:=Qci (off:=0) (len:=l.length) q3 rfl (V b a) L Os;simpa [undp] using this
     | _=>cases P
theorem news_mk{a:Ob}{g cap len:Nat}(r:Row m a g cap)(A:len<=a.els.length):∃ news:List Value,news.length=len*a.esz/\(∀ j u,news[j]?=some u->m.w.cell? ((⟨g,0,none⟩:Addr).add j)=some u)/\(∀ u∈news,u.oneCell'=true) /\
  ∀ (i:Nat) y (j:Nat) d,(a.els.take len)[i]?=some y->y[j]?=some d->∃ u,news[i*a.esz+j]?=some u/\Qhl m a.arr u d:=by
 obtain ⟨b,T,v,w,q⟩:=r.cells;have e:=r.pos;have n:len*a.esz<=b.size:=by rw[w];exact Wy _ (Ub A r.len)
 refine ⟨b.toList.take (len*a.esz),by rw[Wf,Wt];omega,λj u c=>?_,λu c=>?_,λi y j d f t=>?_⟩
 ·rw[WM]at c;split at c
  ·rw[add_lit,W0,cell_of_row m.w g j b T (0,0) v];simpa using c
  ·cases c
 ·obtain ⟨p,h⟩:=W8.1 c;rw[WM]at h;split at h
  ·rename_i hlt;have B:p/a.esz<len:=Vy (by rw[VG];exact hlt);have C:p%a.esz<a.esz:=UJ _ e;have o:=Wa (show p/a.esz<a.els.length by omega);have k:=r.sz _ _ o;obtain ⟨E,s,x⟩:=q _ _ _ _ o (Wa (show p%a.esz<(a.els[p/a.esz]).length by omega));rw[Nat.div_add_mod' p a.esz]at s;have:b[p]?=some u:=by simpa using h
   rw[s]at this;injection this with this;subst this;exact x.1
  ·cases h
 ·rw[WM]at f;split at f
  ·rename_i hi;obtain ⟨u,c,z⟩:=q i y j d f t;have k:=r.sz i y f;have D:=Qc0 t;have l:(i+1)*a.esz<=len*a.esz:=Wy _ hi;rw[Vm]at l;exact ⟨u,by rw[UI Oo];simpa using c,z⟩
  ·cases f
def noDpB(a:List (List DV)):Bool:=a.all λx=>x.all λd=>match d with | .dp _ _=>false | _=>true
theorem noDpB_ok{a:List (List DV)}(h:noDpB a=true):∀ (i:Nat) x (j:Nat) z l,a[i]?=some x->x[j]?=some (.dp z l)->False:=λi x j z l b c=>by unfold noDpB at h;have:=WZ.1 h x (Wq b);have:=WZ.1 this _ (Wq c);cases this
theorem r_appR{t e:Nat}{s x:Operand}{tt D:TyD}{k k2 len f:Nat}{E C:Ob}(ho:o.op = .call ⟨.builtin .append,#[s,x],#[t,t]⟩)(ht:QB P t tt)(hk:tt.k = .slice e)(he:QB P e D)(hs:opd env s = .own k 0 len)(hg:sto.get k=some E)(A:opd env x = .own k2 0 f)(av:sto.get k2=some C)
  (hf:E.frz=false)(ha:E.arr=false)(hl:len<=E.els.length)(aq:f<=C.els.length)(aa:E.esz=D.size)(X:C.esz=D.size)(ah:noDpB (C.els.take f)=true)(hz:D.zero.length=D.size)(h0:0<D.size)(hb:(len+f)*D.bytes<=140737488355328)(aw:len+f<=maxLen) :
  Qv P o env sto nxt ⟨.own nxt 0 (len+f),[(k,none),(nxt,some ⟨D.size,false,false,E.els.take len++C.els.take f⟩)],[k,k2],1⟩:=.ran λF m a hI hE hH hF=>by
 have h1:=hE s (by simp[ho,Op.operands,Call.operands])
 have h2:=hE x (by simp[ho,Op.operands,Call.operands])
 rw[hs]at h1
 rw[A]at h2
 have L:=hF nxt (Wl _) (by show nxt<nxt+1;omega)
 have ab:=hH k Os E hg
 obtain ⟨J,N,kz,k3,O⟩:=Jm h1 ab
 obtain ⟨ay,_,_,_,j4⟩:=Jm h2 (hH k2 Os C av)
 have ac:J.mu=true:=by rw[k3,hf];rfl
 have ai:k≠nxt:=λh=>by subst h;rw[L]at N;cases N
 have I:(∃ g n,J.blk=some (g,n)/\a.eval s = .slice (some ⟨g,0,none⟩) len n/\len<=n/\n<=maxLen/\∃ G T,m.w.heap[g]?=some (.cells G T (0,0))/\G.size=n*D.size)\/(J.blk=none/\a.eval s = .slice none 0 0/\len=0):=by
  rcases O with ⟨g,n,O,I,k5,k6⟩ | ⟨O,I,_,h,_⟩
  ·rw[UD,UR]at I;obtain ⟨G,T,c1,c2,_⟩:=k6.cells;rw[aa]at c2;exact .inl ⟨g,n,O,I,Oo,k6.max,G,T,c1,c2⟩
  ·exact .inr ⟨O,I,h⟩
 have aj:∃ ad c,∃ w:List Value,a.eval x = .slice ad f c/\(f=0\/∃ b off,ad=some ⟨b,off,none⟩/\w.length=f*D.size/\(∀ j u,w[j]?=some u->m.w.cell? ((⟨b,off,none⟩:Addr).add j)=some u)/\∀ u∈w,u.oneCell'=true) /\
   ∀ (i:Nat) y (j:Nat) d,(C.els.take f)[i]?=some y->y[j]?=some d->∃ u,w[i*D.size+j]?=some u/\u.oneCell'=true/\Rep m u d:=by
  rcases j4 with ⟨g,n,_,hv,_,r⟩ | ⟨_,hv,_,h,h',_⟩
  ·rw[UD]at hv
   obtain ⟨w,n1,n2,n3,n4⟩:=news_mk r aq
   rw[X]at n1 n4
   refine ⟨_,_,w,hv,.inr ⟨g,0,rfl,n1,n2,n3⟩,λi y j d K H=>?_⟩
   obtain ⟨u,S,hr⟩:=n4 i y j d K H
   refine ⟨u,S,hr.1,?_⟩
   have:=hr.2
   split at this
   ·exact .pure this
   ·exact this
  ·subst h
   exact ⟨_,_,[],hv,.inl rfl,λi y j d K=>by simp at K⟩
 obtain ⟨ad,c,w,hv,hn,n4⟩:=aj
 obtain ⟨v,Z,U,w1,w2,w3,w4,w5,w6⟩:=app_raw ho ht hk he I hv hn hz h0 hb aw
 have Q:(E.els.take len).length=len:=by rw[Wf];omega
 have ae:(C.els.take f).length=f:=by rw[Wf];omega
 have af:∀ {e':Ent},QH ⟨Z,m.M,Z3 (Z3 m.σ k none) nxt (some e')⟩ nxt ⟨D.size,false,false,E.els.take len++C.els.take f⟩->∀ p∈[(k,none),(nxt,some (⟨D.size,false,false,E.els.take len++C.els.take f⟩:Ob))],Upd ⟨Z,m.M,Z3 (Z3 m.σ k none) nxt (some e')⟩ p:=λq p hp=>by
  rcases Wu.1 hp with rfl | hp
  ·show Z3 (Z3 m.σ k none) nxt _ k=some none;rw[Zi _ _ ai,Qh]
  ·obtain rfl:=Wn.1 hp;exact q
 rcases w6 with ⟨rfl,h6,h7⟩ | ⟨g',M,V,T',rfl,q1,q2,q3,q4,q5,q6,q7⟩
 ·have R:=Qd9 hI N ac L Z ⟨D.size,none,true,noI⟩ w1 w2 w3 w4 w5 (λg' W h=>by cases h)
  refine ⟨_,⟨Z,m.M,Z3 (Z3 m.σ k none) nxt (some ⟨D.size,none,true,noI⟩)⟩,.inl U,R.1,R.2,?_,af ⟨_,Qh _ _ _,rfl,rfl,?_⟩⟩
  ·rw[h6,h7];exact .ownNil (Qh _ _ _) rfl
  ·rw[h6,h7];exact ⟨Os,h0⟩
 ·have ak:∀ b,J.inn b->b≠g':=λb hb h=>by
   subst h;rcases q1 with ⟨W,h⟩ | ⟨h,_⟩
   ·exact hI.wf k J b W N h hb
   ·have:=(hI.at_ k J b N (.inr hb)).1;omega
  have R:=turn_moveD hI N ac L Z ⟨D.size,some (g',M),true,J.inn⟩ w1 w2 w3 w4 (λj hj h=>w5 j hj λc hc=>h (.inl ⟨c,hc⟩)) (λg1 h=>by
   rcases h with ⟨W,h⟩ | h
   ·injection h with h
    injection h with h1 h2
    subst h1
    rcases q1 with ⟨W,h⟩ | h
    ·exact .inl (.inl ⟨W,h⟩)
    ·exact .inr h
   ·exact .inl (.inr h)) (λg1 W h hi=>by
   injection h with h
   injection h with h1 h2
   exact ak g1 hi h1.symm)
  have Y:∀ (i:Nat) x,(E.els.take len)[i]?=some x->x.length=D.size/\E.els[i]?=some x/\∀ (j:Nat) d,x[j]?=some d->∃ g n u,J.blk=some (g,n)/\Row m E g n/\V[i*D.size+j]?=some u/\m.w.cell? ⟨g,i*E.esz+j,none⟩=some u/\Qhl m false u d:=λi x A=>by
   rw[WM]at A;split at A
   ·rename_i hi;rcases O with ⟨g,n,O,_,k5,k6⟩ | ⟨_,_,_,h,_⟩
    ·have hl:=k6.sz i x A;rw[aa]at hl;refine ⟨hl,A,λj d H=>?_⟩;obtain ⟨G,T,c1,c2,c3⟩:=k6.cells;obtain ⟨u,S,hr⟩:=c3 i x j d A H;have hj:=Qc0 H;have al:(i+1)*D.size<=len*D.size:=Wy _ hi;rw[Vm]at al;rw[ha]at hr;refine ⟨g,n,u,O,k6,?_,by rw[cell_of_row m.w g _ G T (0,0) c1];exact S,hr⟩;rw[aa]at S;rw[q6 _ g n G T O c1 Oo];exact S
    ·omega
   ·cases A
  have am:Row ⟨Z,m.M,Z3 (Z3 m.σ k none) nxt (some ⟨D.size,some (g',M),true,J.inn⟩)⟩ ⟨D.size,false,false,E.els.take len++C.els.take f⟩ g' M:=row_twoR q4 q5 q3 h0 (by rw[Q,ae];exact q2) (λi x A=>?_) (λi y K=>⟨?_,λj d H=>?_⟩)
  ·refine ⟨_,_,.inl U,R.1,R.2,own_mem (Qh _ _ _) rfl q2 q3,af (QH.of (Qh _ _ _) rfl rfl rfl am ?_)⟩
   cases hbk:J.blk with
   | none =>
    refine Deep.flat λi x j z l A H=>?_
    by_cases hi:i<(E.els.take len).length
    ·dsimp only at A
     rw[WF hi]at A
     obtain ⟨_,_,k⟩:=Y i x A
     obtain ⟨_,_,_,h,_⟩:=k j _ H
     rw[hbk]at h;cases h
    ·dsimp only at A
     rw[WC Oo]at A
     exact noDpB_ok ah _ _ _ _ _ A H
   | some p =>
    obtain ⟨g,n⟩:=p
    obtain ⟨B,d1,d2⟩:=deep_get ab N hbk
    refine ⟨B,λi x j z l A H=>?_,d2⟩
    dsimp only at A ⊢
    by_cases hi:i<(E.els.take len).length
    ·rw[WF hi]at A
     obtain ⟨_,o1,kk⟩:=Y i x A
     obtain ⟨g2,ax,u,o2,_,o3,o4,_⟩:=kk j _ H
     rw[hbk]at o2
     injection o2 with o2
     injection o2 with o2 _
     subst o2
     obtain ⟨u',e1,e2⟩:=d1 i x j z l o1 H
     rw[o4]at e1
     injection e1 with e1
     subst e1
     refine ⟨u,by rw[cell_of_row Z g' _ V T' (0,0) q4];exact o3,?_⟩
     cases hB:B i j with
     | none=>rw[hB]at e2;exact e2
     | some b =>
      rw[hB]at e2
      obtain ⟨p1,cp,p2,p3⟩:=e2
      refine ⟨p1,cp,p2,p3.ext R.2.toExt ?_⟩
      exact w5 b (hI.at_ k J b N (.inr p1)).1 λW hc=>hI.wf k J b W N hc p1
    ·rw[WC Oo]at A
     exact (noDpB_ok ah _ _ _ _ _ A H).elim
  ·obtain ⟨o1,_,k⟩:=Y i x A
   exact ⟨o1,λj d H=>by
    obtain ⟨_,_,u,_,_,o3,_,o5⟩:=k j d H
    exact ⟨u,o3,o5.ext R.2.toExt⟩⟩
  ·rw[WM]at K
   split at K
   ·rcases j4 with ⟨g,n,_,_,_,r⟩ | ⟨_,_,_,_,h,_⟩
    ·rw[<- X];exact r.sz i y K
    ·rw[h]at K;simp at K
   ·cases K
  ·obtain ⟨u,S,ao,ap⟩:=n4 i y j d K H
   have an:i*D.size+j<w.length:=Qc0 S
   have ag:0<f:=by have:=Qc0 K;omega
   refine ⟨u,?_,ao,ap.ext R.2.toExt⟩
   rw[Q,Vk,Vg,q7 ag _ an]
   exact S
end
theorem dpM{α:Type}{cd:α->List DV}{l:List α}(h:∀ a,(cd a).all dpB=true):∀ x∈l.map cd,∀ d∈x,dpB d=true:=λx b d c=>by obtain ⟨a,_,rfl⟩:=Wm.1 b;exact WZ.1 (h a) d c
theorem CvL.same{sto:Sto}{ρ:Ren}:∀ {l:List DV},(∀ d∈l,dpB d=true)->CvL sto ρ l l []
 | [],_=>.nil
 | d :: l,h=>by
  have a:=h d (WH ..);have b:Cv sto ρ d d []:=by
   cases d with
   | lit v=>exact .lit
   | sl xs=>exact .sl
   | dp z l=>exact .dp
   | _=>cases a
  exact .cons b (CvL.same λd c=>h d (Wp _ c))
theorem CvO.rowAt{α:Type}{cd:α->List DV}{l:List α}{i:Nat}{row d:List DV}{sto:Sto}{ρ:Ren}{z:Nat}{k:Bool}{r:List Nat}(h:∀ a,(cd a).all dpB=true)(m:CvL sto ρ row d r):CvO sto ρ ⟨z,false,k,(l.map cd).set i row⟩ ⟨z,false,k,(l.map cd).set i d⟩ r :=
 .rows Os (λj x y c b=>by
  by_cases g:i=j
  ·subst g
   have e:=Qc0 c
   rw[Ww]at e
   rw[WN e]at c b
   injection c with c
   injection b with b
   subst c
   subst b
   exact ⟨r,m,λs f=>f⟩
  ·rw[WK g]at c b
   rw[c]at b
   injection b with b
   subst b
   exact ⟨[],CvL.same (dpM h x (Wq c)),λs f=>by cases f⟩) m.known
theorem Cv.dfzM{α:Type}{cd c:α->List DV}{l:List α}{sto:Sto}{ρ:Ren}{s len z:Nat}{b:Bool}(h:sto.get s=some ⟨z,false,b,l.map cd⟩)(f:∀ a,(cd a).map undp=c a)(d:∀ a,(cd a).all dpB=true)(e:len=l.length):Cv sto ρ (.own s 0 len) (.sl (l.map c)) [s] :=
 .dfz h rfl (dpM d) (by rw[e];simp) (by
  show (l.map cd).map _=_
  rw[Va]
  exact W7 λa _=>f a)
theorem ZB.flat{α:Type}{cd c:α->List DV}{l:List α}{n0:Nat}{env:Env}{sto:Sto}{nxt s z:Nat}(o:sto.get s=some ⟨z,false,false,l.map cd⟩)(g:∀ a,(cd a).map undp=c a)(A:∀ a,(cd a).all dpB=true):ZB n0 ⟨env,sto,nxt⟩ ⟨env,(s,⟨z,true,false,l.map c⟩) :: sto,nxt⟩:=λC _ a w x=>by
 obtain ⟨m,rfl,d,q⟩:=x;obtain ⟨r,t,u,v,i,j⟩:=deep_flat d.inv (d.sto s _ o) (dpM A);have e:(l.map cd).map (·.map undp)=l.map c:=by rw[Va];exact W7 λa _=>g a
 rw[e]at j;refine ⟨r,t,⟨v,u.trans d.M,d.size,d.defers,d.org.trans i.ent,d.lim0,λk=>(d.env k).ext i.toExt,λf y b=>?_⟩,λf b=>?_⟩
 ·simp only[Sto.get_cons]at b;split at b
  ·rename_i h;subst h;injection b with b;subst b;exact j
  ·rename_i h;exact QH.loc d.inv i (by simpa using h) (d.sto f y b)
 ·have g:=q f b;have p:f≠s:=λh=>by subst h;obtain ⟨e,n,_⟩:=d.sto f _ o;rw[g]at n;cases n
  rw[i.same f (by simpa using p)];exact g
inductive Grd(ops:Array Oper)(o:Oper)(env:Env):Prop
 | none:o.guard=none->Grd ops o env
 | yes {g t:Nat} {b:Bool}:o.guard=some (g,b)->(ops[g]?).bind (·.dst)=some t->env.get t = .lit (.bool b)->Grd ops o env
section
variable{P:Program}{env:Env}{sto:Sto}{nxt:Nat}{o:Oper}{ops:Array Oper}{l:List Oper}{K:Qgi->DSt->Prop}
theorem go{d:DV}{us:List (Nat×Option Ob)}{a:List Nat}{n:Nat}(h:Qv P o env sto nxt ⟨d,us,a,n⟩)
  (k:Q0 P ops l ⟨env.put o.dst d,sto.upd us,nxt+n⟩ λouts=>K ((⟨d,us,a,n⟩,nxt) :: outs))(b:Grd ops o env:=by first | exact .none rfl | exact .yes rfl rfl rfl):Q0 P ops (o :: l) ⟨env,sto,nxt⟩ K :=
 Q0.cons' (by
  unfold Qer
  cases b with
  | none hn=>rw[hn];exact h
  | yes h1 h2 h3=>rw[h1];exact ⟨_,h2,.inl ⟨h3,h⟩⟩) k
theorem no{g t:Nat}{b:Bool}(k:Q0 P ops l ⟨env.put o.dst .any,sto,nxt⟩ λouts=>K ((⟨.any,[],[],0⟩,nxt) :: outs))
  (a:o.guard=some (g,b):=by rfl)(c:(ops[g]?).bind (·.dst)=some t:=by rfl)(d:env.get t = .lit (.bool (!b)):=by rfl):Q0 P ops (o :: l) ⟨env,sto,nxt⟩ K :=
 Q0.cons' (out:=⟨.any,[],[],0⟩) (by unfold Qer;rw[a];exact ⟨t,c,.inr (.inl ⟨.inl d,.inl rfl⟩)⟩) k
theorem m_move{x:Operand}(a:o.op = .move x:=by rfl):Qv P o env sto nxt ⟨opd env x,[],[],0⟩:=r_move a
theorem m_set{x:Operand}(a:o.op = .assign x:=by rfl):Qv P o env sto nxt ⟨opd env x,[],[],0⟩:=r_assign a
theorem m_pick{c x y:Operand}{t:Bool}(b:o.op = .pick c x y:=by rfl)(a:opd env c = .lit (.bool t):=by rfl):Qv P o env sto nxt ⟨cond t (opd env x) (opd env y),[],[],0⟩:=by have:=r_pick (P:=P) (sto:=sto) (nxt:=nxt) b a;cases t <;> exact this
theorem m_ext{x:Operand}{i:Nat}{xs:List DV}{d:DV}(c:o.op = .extract x i:=by rfl)(b:opd env x = .tup xs:=by rfl)(a:xs[i]?=some d:=by rfl):Qv P o env sto nxt ⟨d,[],[],0⟩:=r_extract c b a
theorem m_not{t:Nat}{x:Operand}{p:Bool}(b:o.op = .unOp .not t x:=by rfl)(a:opd env x = .lit (.bool p):=by rfl):Qv P o env sto nxt ⟨.lit (.bool (!p)),[],[],0⟩:=r_not b a
theorem m_func{f:Nat}{cap:Array Operand}{l:List Operand}(b:o.op = .makeFunc (.func f) #[] cap:=by rfl)(a:cap=l.toArray:=by rfl):Qv P o env sto nxt ⟨.fn f (l.map (opd env)),[],[],0⟩:=r_func b a
inductive QcO:BinOp->IntKind->Int->Int->Value->Prop
 | add {a b:Int}:-9223372036854775808<=a+b/\a+b<=9223372036854775807->QcO .add .i64 a b (.int .i64 (a+b))
 | sub {a b:Int}:-9223372036854775808<=a-b/\a-b<=9223372036854775807->QcO .sub .i64 a b (.int .i64 (a-b))
 | mul {a b:Int}:-9223372036854775808<=a*b/\a*b<=9223372036854775807->QcO .mul .i64 a b (.int .i64 (a*b))
 | addu {a b:Int}:0<=a+b/\a+b<=18446744073709551615->QcO .add .u64 a b (.int .u64 (a+b))
 | subu {a b:Int}:0<=a-b/\a-b<=18446744073709551615->QcO .sub .u64 a b (.int .u64 (a-b))
 | bitsE {op:BinOp} {k:IntKind} {a b r:Int}:(op = .and\/op = .or\/op = .xor\/op = .andNot)->bits op k a b=r->QcO op k a b (.int k r)
 | mulu {a b:Int}:0<=a*b/\a*b<=18446744073709551615->QcO .mul .u64 a b (.int .u64 (a*b))
 | quo {k:IntKind} {a b:Int}:0<=a/\0<b/\k.wrap (a/b)=a/b->QcO .quo k a b (.int k (a/b))
 | rem {k:IntKind} {a b:Int}:0<=a/\0<b->QcO .rem k a b (.int k (a%b))
 | ltT {k:IntKind} {a b:Int}:a<b->QcO .lss k a b (.bool true)
 | ltF {k:IntKind} {a b:Int}:b<=a->QcO .lss k a b (.bool false)
 | leT {k:IntKind} {a b:Int}:a<=b->QcO .leq k a b (.bool true)
 | leF {k:IntKind} {a b:Int}:b<a->QcO .leq k a b (.bool false)
 | gtT {k:IntKind} {a b:Int}:b<a->QcO .gtr k a b (.bool true)
 | gtF {k:IntKind} {a b:Int}:a<=b->QcO .gtr k a b (.bool false)
 | geT {k:IntKind} {a b:Int}:b<=a->QcO .geq k a b (.bool true)
 | geF {k:IntKind} {a b:Int}:a<b->QcO .geq k a b (.bool false)
 | eqT {k:IntKind} {a b:Int}:a=b->QcO .eql k a b (.bool true)
 | eqF {k:IntKind} {a b:Int}:¬ a=b->QcO .eql k a b (.bool false)
 | neT {k:IntKind} {a b:Int}:¬ a=b->QcO .neq k a b (.bool true)
 | neF {k:IntKind} {a b:Int}:a=b->QcO .neq k a b (.bool false)
 | lt {k:IntKind} {a b:Int}:QcO .lss k a b (.bool (decide (a<b)))
 | le {k:IntKind} {a b:Int}:QcO .leq k a b (.bool (decide (a<=b)))
 | gt {k:IntKind} {a b:Int}:QcO .gtr k a b (.bool (decide (b<a)))
 | ge {k:IntKind} {a b:Int}:QcO .geq k a b (.bool (decide (b<=a)))
 | eq {k:IntKind} {a b:Int}:QcO .eql k a b (.bool (decide (a=b)))
 | ne {k:IntKind} {a b:Int}:QcO .neq k a b (.bool (!decide (a=b)))
 | raw {op:BinOp} {k:IntKind} {a b:Int} {r:Value}:Xo op k a b=some r->QcO op k a b r
theorem QcO.ok{e:BinOp}{k:IntKind}{a b:Int}{r:Value}(h:QcO e k a b r):Xo e k a b=some r:=by
 cases h with
 | add h=>show some (Value.int _ _)=_;rw[QbY h]
 | sub h=>show some (Value.int _ _)=_;rw[QbY h]
 | mul h=>show some (Value.int _ _)=_;rw[QbY h]
 | addu h=>show some (Value.int _ _)=_;rw[Qba h]
 | subu h=>show some (Value.int _ _)=_;rw[Qba h]
 | bitsE c d=>subst d;rcases c with rfl | rfl | rfl | rfl <;> rfl
 | mulu h=>show some (Value.int _ _)=_;rw[Qba h]
 | quo h=>obtain ⟨c,d,f⟩:=h;simp only[Xo];rw[if_neg Oo,Ue c,f]
 | rem h=>obtain ⟨c,d⟩:=h;simp only[Xo];rw[if_neg Oo,VU c]
 | ltT h=>simp[Xo,h]
 | ltF h=>simp[Xo];omega
 | leT h=>simp[Xo,h]
 | leF h=>simp[Xo];omega
 | gtT h=>simp[Xo,h]
 | gtF h=>simp[Xo];omega
 | geT h=>simp[Xo,h]
 | geF h=>simp[Xo];omega
 | eqT h=>simp[Xo,h]
 | eqF h=>simp[Xo,h]
 | neT h=>simp[Xo,h]
 | neF h=>simp[Xo,h]
 | lt=>rfl
 | le=>rfl
 | gt=>rfl
 | ge=>rfl
 | eq=>simp only[Xo];congr 2
 | ne=>simp only[Xo];congr 2
 | raw h=>exact h
inductive ShI:BinOp->IntKind->Int->Int->Value->Prop
 | shl {a:Int} {s:Nat}:s<=64/\-9223372036854775808<=a*2^s/\a*2^s<=9223372036854775807->ShI .shl .i64 a s (.int .i64 (a*2^s))
 | shlu {a:Int} {s:Nat}:s<=64/\0<=a*2^s/\a*2^s<=18446744073709551615->ShI .shl .u64 a s (.int .u64 (a*2^s))
 | shr {k:IntKind} {a:Int} {s:Nat}:s<=k.bits->ShI .shr k a s (.int k (a/2^s))
 | shlZ {a q:Int}:0<=q/\q<=64/\-9223372036854775808<=a*2^q.toNat/\a*2^q.toNat<=9223372036854775807->ShI .shl .i64 a q (.int .i64 (a*2^q.toNat))
 | shluZ {a q:Int}:0<=q/\q<=64/\0<=a*2^q.toNat/\a*2^q.toNat<=18446744073709551615->ShI .shl .u64 a q (.int .u64 (a*2^q.toNat))
 | shrZ {k:IntKind} {a q:Int}:0<=q/\q.toNat<=k.bits->ShI .shr k a q (.int k (a/2^q.toNat))
 | raw {op:BinOp} {k:IntKind} {a b:Int} {r:Value}:Xi op k a b=some r->ShI op k a b r
theorem ShI.ok{e:BinOp}{k:IntKind}{a b:Int}{r:Value}(h:ShI e k a b r):Xi e k a b=some r:=by
 cases h with
 | shl h =>obtain ⟨d,c⟩:=h;simp only[Xi];rw[if_neg Oo,Wd,W5 (show _<=IntKind.i64.bits from d),QbY c]
 | shlu h =>obtain ⟨d,c⟩:=h;simp only[Xi];rw[if_neg Oo,Wd,W5 (show _<=IntKind.u64.bits from d),Qba c]
 | shr h =>simp only[Xi];rw[if_neg Oo,Wd,W5 h,Uy _ (Waa (Int.pow_pos Od))]
 | shlZ h =>obtain ⟨f,d,c⟩:=h;simp only[Xi];rw[if_neg Oo,W5 (show _<=IntKind.i64.bits by show _<=64;omega),QbY c]
 | shluZ h =>obtain ⟨f,d,c⟩:=h;simp only[Xi];rw[if_neg Oo,W5 (show _<=IntKind.u64.bits by show _<=64;omega),Qba c]
 | shrZ h =>simp only[Xi];rw[if_neg Oo,W5 h.2,Uy _ (Waa (Int.pow_pos Od))]
 | raw h=>exact h
theorem map_at{α:Type}{c:α->List DV}{l:List α}{i:Nat}(h:i<l.length):(l.map c)[i]?=some (c l[i]):=by rw[Wh,Wa h];rfl
inductive Cells(env:Env)(sto:Sto):Operand->List DV->List Nat->Prop
 | pp {p:Operand} {cs:List DV}:opd env p = .pp cs->Cells env sto p cs []
 | ptr {p:Operand} {s i j:Nat} {ob:Ob} {x:List DV}:opd env p = .ptr s i j->sto.get s=some ob->ob.els[i]?=some x->Cells env sto p (x.drop j) [s]
 | ptrM {α:Type} {c:α->List DV} {l:List α} {p:Operand} {s i j z:Nat} {arr frz:Bool}:opd env p = .ptr s i j->sto.get s=some ⟨z,arr,frz,l.map c⟩->(h:i<l.length)->Cells env sto p ((c l[i]).drop j) [s]
theorem m_load{t:Nat}{p:Operand}{f:TyD}{d:DV}{cs:List DV}{e:List Nat}(c:QB P t f)(b:o.op = .load t p:=by rfl)(g:Cells env sto p cs e:=by first | exact .ptr rfl rfl rfl | exact .pp rfl | exact .ptrM rfl rfl Oo)(a:ldD f cs=some d:=by rfl):Qv P o env sto nxt ⟨d,[],e,0⟩:=by
 cases g with
 | pp hp=>exact r_loadP b c hp a
 | ptr hp hs hx=>exact r_load b c hp hs hx a
 | ptrM hp hs h=>exact r_load b c hp hs (map_at h) a
inductive FaD(env:Env)(sto:Sto)(off:Nat):Operand->DV->List Nat->Prop
 | pp {p:Operand} {cs:List DV}:opd env p = .pp cs->FaD env sto off p (.pp (cs.drop off)) []
 | ptr {p:Operand} {s i j:Nat} {ob:Ob}:opd env p = .ptr s i j->sto.get s=some ob->FaD env sto off p (.ptr s i (j+off)) [s]
theorem m_fa{t f:Nat}{p:Operand}{h:TyD}{fs:List (Nat×Nat)}{off a:Nat}{d:DV}{b:List Nat}(i:QB P t h)(g:o.op = .fieldAddr t p f:=by rfl)(c:h.k = .struct fs:=by rfl)(e:fs[f]?=some (off,a):=by rfl)(j:a≠0:=by decide)
  (k:FaD env sto off p d b:=by first | exact .ptr rfl rfl | exact .pp rfl):Qv P o env sto nxt ⟨d,[],b,0⟩:=by
 cases k with
 | pp hp=>exact r_faP g i c e j hp
 | ptr hp hs=>exact r_fa g i c e j hp hs
inductive LenD(env:Env)(sto:Sto):Operand->Nat->List Nat->Prop
 | map {α:Type} {c:α->List DV} {l:List α} {x:Operand}:opd env x = .sl (l.map c)->LenD env sto x l.length []
 | sl {xs:List (List DV)} {x:Operand}:opd env x = .sl xs->LenD env sto x xs.length []
 | nil {x:Operand}:opd env x = .lit (.slice none 0 0)->LenD env sto x 0 []
 | own {s off len:Nat} {ob:Ob} {x:Operand}:opd env x = .own s off len->sto.get s=some ob->LenD env sto x len [s]
theorem m_len{x:Operand}{t:Nat}{f:TyD}{e n:Nat}{d:List Nat}(c:QB P t f)(b:o.op = .call ⟨.builtin .len,#[x],#[t]⟩:=by rfl)(a:f.k = .slice e:=by rfl)
  (g:LenD env sto x n d:=by first | exact .map rfl | exact .own rfl rfl | exact .nil rfl | exact .sl rfl):Qv P o env sto nxt ⟨.lit (.int .i64 n),[],d,0⟩:=by
 cases g with
 | map h=>exact r_lenS b c a h Os
 | sl h=>exact r_lenS b c a h rfl
 | nil h=>exact r_lenN b c a h
 | own h hs=>exact r_lenO b c a h hs
inductive NilD(env:Env)(sto:Sto):Operand->DV->List Nat->Prop
 | pp {x:Operand} {cs:List DV}:opd env x = .pp cs->NilD env sto x (.pp cs) []
 | ptr {x:Operand} {s i j:Nat} {ob:Ob}:opd env x = .ptr s i j->sto.get s=some ob->NilD env sto x (.ptr s i j) [s]
 | fn {x:Operand} {f:Nat} {xs:List DV}:opd env x = .fn f xs->NilD env sto x (.fn f xs) []
 | func {x:Operand} {f:Nat} {p q:Array Value}:opd env x = .lit (.func (.func f) p q)->NilD env sto x (.lit (.func (.func f) p q)) []
theorem m_nil{x:Operand}{d:DV}{b:List Nat}(a:o.op = .nilCheck x:=by rfl)(c:NilD env sto x d b:=by first | exact .ptr rfl rfl | exact .pp rfl | exact .fn rfl | exact .func rfl):Qv P o env sto nxt ⟨d,[],b,0⟩:=by
 cases c with
 | pp h=>exact r_nilP a h
 | ptr h hs=>exact r_nil a h hs
 | fn h=>exact r_nilF a h
 | func h=>exact r_nilL a h
inductive StD(env:Env)(sto:Sto)(td:TyD):Operand->Operand->List (Nat×Option Ob)->List Nat->Prop
 | box {p x:Operand} {s i j:Nat} {ob:Ob} {y cs:List DV} {r:List Nat}:opd env p = .ptr s i j->sto.get s=some ob->ob.frz=false->ob.arr=false->QbE td (opd env x)=some cs->boxF sto cs=some r->ob.els[i]?=some y->j+cs.length<=y.length ->
   StD env sto td p x [(s,some { ob with els:=ob.els.set i (setCells y j cs) })] (s :: r)
 | arr {p x:Operand} {s i j:Nat} {ob:Ob} {y cs cs':List DV} {us:List Nat}:opd env p = .ptr s i j->sto.get s=some ob->ob.frz=false->ob.arr=true->QbE td (opd env x)=some cs->QbN sto cs=some (cs',us)->us.contains s=false->ob.els[i]?=some y->j+cs.length<=y.length ->
   StD env sto td p x ((s,some { ob with els:=ob.els.set i (setCells y j cs') }) :: QdP sto us) (s :: us)
 | arrM {α:Type} {c:α->List DV} {l:List α} {p x:Operand} {s i j z:Nat} {cs cs':List DV} {us:List Nat}:opd env p = .ptr s i j->sto.get s=some ⟨z,true,false,l.map c⟩->QbE td (opd env x)=some cs->QbN sto cs=some (cs',us)->us.contains s=false->(h:i<l.length)->j+cs.length<=(c l[i]).length ->
   StD env sto td p x ((s,some ⟨z,true,false,(l.map c).set i (setCells (c l[i]) j cs')⟩) :: QdP sto us) (s :: us)
theorem m_store{t:Nat}{p x:Operand}{d:TyD}{us:List (Nat×Option Ob)}{c:List Nat}(b:QB P t d)(a:o.op = .store t p x:=by rfl)
  (e:StD env sto d p x us c:=by first | exact .box rfl rfl rfl rfl rfl rfl rfl (by first | decide | exact V0 rfl) | exact .arrM rfl rfl rfl rfl rfl Oo (by first | decide | exact V0 rfl) | exact .arr rfl rfl rfl rfl rfl rfl rfl rfl (by first | decide | exact V0 rfl)):Qv P o env sto nxt ⟨.any,us,c,0⟩:=by
 cases e with
 | box h1 h2 h3 h4 h5 h6 h7 h8=>exact Qgt a b h1 h2 h3 h4 h5 h6 h7 h8
 | arr h1 h2 h3 h4 h5 h6 h7 h8 h9=>exact r_storeA a b h1 h2 h3 h4 h5 h6 h7 h8 h9
 | arrM h1 h2 h5 h6 h7 h8 h9=>exact r_storeA a b h1 h2 rfl rfl h5 h6 h7 (map_at h8) h9
inductive ElsD(env:Env)(sto:Sto)(z:Nat):Operand->List (List DV)->List Nat->Prop
 | map {α:Type} {c:α->List DV} {l:List α} {x:Operand}:opd env x = .sl (l.map c)->(∀ a,(c a).length=z)->ElsD env sto z x (l.map c) []
 | own {α:Type} {c:α->List DV} {l:List α} {x:Operand} {s off len:Nat} {frz:Bool}:opd env x = .own s off len->sto.get s=some ⟨z,true,frz,l.map c⟩->off=0->len=l.length->(∀ a,(c a).length=z)->ElsD env sto z x (l.map c) [s]
 | raw {x:Operand} {ys:List (List DV)} {rs:List Nat}:elsF sto (opd env x)=some (ys,rs)->(∀ y∈ys,y.length=z)->ElsD env sto z x ys rs
theorem ElsD.ok{z:Nat}{x:Operand}{ys:List (List DV)}{c:List Nat}(h:ElsD env sto z x ys c):elsF sto (opd env x)=some (ys,c)/\∀ y∈ys,y.length=z:=by
 cases h with
 | map h hz =>rw[h];exact ⟨rfl,λy b=>by obtain ⟨a,_,rfl⟩:=Wm.1 b;exact hz a⟩
 | own h hs h0 hl hz =>rw[h];subst h0;subst hl;refine ⟨?_,λy b=>by obtain ⟨a,_,rfl⟩:=Wm.1 b;exact hz a⟩;unfold elsF;simp only[hs];rw[if_pos ⟨trivial,Os⟩,UN,WD Os]
 | raw h hz=>exact ⟨h,hz⟩
theorem m_xor{t:Nat}{x:Operand}{k:IntKind}{p:Int}(b:o.op = .unOp .xor t x:=by rfl)(a:opd env x = .lit (.int k p):=by rfl):Qv P o env sto nxt ⟨.lit (.int k (k.wrap (BitVec.ofInt k.bits (if k.signed then -1 else k.max) ^^^ BitVec.ofInt k.bits p).toNat)),[],[],0⟩:=r_xor b a
end
abbrev DI(n:Int):DV:=.lit (.int .i64 n)
abbrev DU(n:Int):DV:=.lit (.int .u64 n)
abbrev DB(b:Bool):DV:=.lit (.bool b)
abbrev DN:DV:=.lit (.slice none 0 0)
theorem Cv.litE{sto:Sto}{ρ:Ren}{u v:Value}(h:u=v):Cv sto ρ (.lit u) (.lit v) []:=h▸.lit
theorem Cv.frzM{α:Type}{c:α->List DV}{l:List α}{sto:Sto}{ρ:Ren}{s len z:Nat}{b:Bool}(h:sto.get s=some ⟨z,true,b,l.map c⟩)(a:len=l.length):Cv sto ρ (.own s 0 len) (.sl (l.map c)) [s] :=
 .frz h rfl (by simp[a]) (by rw[a,UN,WD Os])
theorem CvO.arrE{sto:Sto}{ρ:Ren}{z:Nat}{a:Bool}{xs ys:List (List DV)}(h:xs=ys):CvO sto ρ ⟨z,true,a,xs⟩ ⟨z,true,a,ys⟩ []:=h▸.arr rfl
section
variable{P:Program}{env:Env}{sto:Sto}{nxt:Nat}{o:Oper}
theorem CvL.numbers{sto:Sto}{ρ:Ren}:∀ (l:List Int),CvL sto ρ (l.map DI) (l.map DI) []
 | []=>.nil
 | _ :: l=>CvL.cons (r:=[]) (r':=[]) .lit (CvL.numbers l)
theorem CvL.bools{sto:Sto}{ρ:Ren}:∀ (l:List Bool),CvL sto ρ (l.map DB) (l.map DB) []
 | []=>.nil
 | _ :: l=>CvL.cons (r:=[]) (r':=[]) .lit (CvL.bools l)
theorem fin{f:Func}{n0:Nat}{r:DV}{d:Sto}{e:Exit}{c:DSt}{ds:List DV}{a b:List Nat}(ρ:Ren)(h:ResL P c f.results.toList ds)
  (j:Cv c.sto ρ (resV ds) r a:=by repeat' (first | exact .any | exact .lit | exact .sl | exact .nil | exact .own rfl | exact .ptr rfl | exact .frzM rfl (by first | rfl | simp) | exact .pp | exact CvL.nil | apply CvL.cons | apply Cv.agg | apply Cv.tup | apply Cv.fn | exact .litE Oa | exact .litE (congrArg (Value.int _) Oo) | exact .litE (by simp[*])))
  (i:CvS c.sto ρ d b:=by repeat' (first | exact CvS.nil | apply CvS.cons rfl rfl | exact .arr rfl | apply CvO.box | exact CvL.nil | apply CvL.cons | exact .any | exact .lit | exact .sl | exact .nil | exact .own rfl | exact .ptr rfl | exact .pp | exact .arrE Oa | exact .litE Oa))
  (k:okR ρ (a++b) n0 (idb d n0)=true:=by rfl)(g:e = .normal\/e = .ret:=by first | exact .inr rfl | exact .inl rfl):RetD P f n0 r d e c:=⟨g,ds,ρ,a,b,h,j,i,k⟩
theorem PRep.len{w:World}{no:Nat->Prop}{v:Value}{xs:List (List DV)}(h:PRep w no v (.sl xs)):xs.length<=9223372036854775807:=by obtain ⟨_,a,_,c,b,_⟩:=h.sl_inv;unfold maxLen at b;omega
end
def QgG:List DV->Option (List Int)
 | []=>some []
 | .lit (.int .i64 n) :: l=>match QgG l with | some r=>some (n :: r) | none=>none
 | _=>none
def stEqB(P:Program)(t n:Nat):Bool:=match P.underlying t with
 | some (.struct fs)=>!P.stoodInHeld t && !P.eqGuardType P.depth t && fs.size == n && fs.toList.zipIdx.all λp=>!(p.1.name == "_") && p.1.offset == p.2 && (match P.underlying p.1.type with | some (.int .i64)=>true | _=>false) && (match P.info? p.1.type with | some i=>i.size == 1 | none=>false)
 | _=>false
section
variable{P:Program}{env:Env}{sto:Sto}{nxt:Nat}{o:Oper}
theorem Qcr{m:Mem}{vs:List Value}{xs:List DV}{e:List Int}(h:QgG xs=some e)(a:Reps m vs xs):vs=e.map (Value.int .i64):=by
 induction xs generalizing vs e with
 | nil =>injection h with h;subst h;exact VA.1 a.1
 | cons x xs ih =>
  unfold QgG at h;split at h
  ·rename_i hq;cases hq
  ·rename_i n l hq;injection hq with b c;subst b;subst c;split at h
   ·rename_i r hr';injection h with h;subst h;cases vs with
    | nil=>have:=a.1;simp at this
    | cons v vs =>have b:=a.2 0 v _ rfl rfl;have c:=ih (vs:=vs) hr' ⟨by simpa using a.1,λi v d f g=>a.2 (i+1) v d (by simpa using f) (by simpa using g)⟩;rw[b.lit_inv,c];rfl
   ·cases h
  ·cases h
theorem Qfg(w:World)(a b:List Int)(d:Nat)(C:a.length=b.length):∀ (fs:List Field) (k:Nat),
  (fs.zipIdx k).all (λp=>!(p.1.name == "_") && p.1.offset == p.2 && (match P.underlying p.1.type with | some (.int .i64)=>true | _=>false) && (match P.info? p.1.type with | some i=>i.size == 1 | none=>false))=true ->
  k+fs.length=a.length->(Op.eqFields (d+1) (a.map (Value.int .i64)).toArray (b.map (Value.int .i64)).toArray fs).run P w = .ok (decide (a.drop k=b.drop k)) w
 | [],k,_,hk=>by have j:a.drop k=[]:=Vx (by simp at hk;omega);have q:b.drop k=[]:=Vx (by simp at hk;omega);simp[Op.eqFields,j,q]
 | f :: fs,k,h,hk=>by
  rw[List.zipIdx_cons,List.all_cons,Vh]at h;obtain ⟨j,q⟩:=h;simp only[Vh,VF,beq_iff_eq,beq_eq_false_iff_ne,ne_eq]at j;obtain ⟨⟨⟨A,B⟩,x⟩,m⟩:=j;have g:k<a.length:=by simp at hk;omega
  have c:k<b.length:=by omega
  have s:P.underlying f.type=some (.int .i64):=by
   split at x
   ·assumption
   ·cases x
  have t:∀ (o:List Int) (y:k<o.length),(part f.type (o.map (Value.int .i64)).toArray f.offset).run P w = .ok (.int .i64 o[k]) w:=λo y=>by
   cases l:P.info? f.type with
   | none=>rw[l]at m;cases m
   | some i =>
    rw[l]at m;have D:i.size=1:=by simpa using m
    simp[part,isAgg,run_underlying s,B,y]
  have z:=Qfg w a b d C fs (k+1) q (by simp at hk;omega);have u:a.drop k=a[k] :: a.drop (k+1):=Vi g;have v:b.drop k=b[k] :: b.drop (k+1):=Vi c;have l:=run_equalIn_int (P:=P) w d f.type .i64 .i64 a[k] b[k] s;unfold Op.eqFields;rw[if_pos A];simp only[Sem.run_bind,t a g,t b c,Result.andThen_ok,l];by_cases n:a[k]=b[k]
  ·have r:(a[k] == b[k])=true:=by rw[n];exact beq_self_eq_true _
   have e:(a.drop k=b.drop k)<->(a.drop (k+1)=b.drop (k+1)):=by rw[u,v,Yu];exact ⟨λh=>h.2,λh=>⟨n,h⟩⟩
   rw[r];simp only[Bool.not_true,Bool.false_eq_true,if_false,z];rw[decide_eq_decide.2 e]
  ·have r:(a[k] == b[k])=false:=by rw[beq_eq_false_iff_ne];exact n
   have e:¬ (a.drop k=b.drop k):=by rw[u,v,Yu];exact λh=>n h.1
   rw[r,decide_eq_false e];rfl
theorem run_eqS{t:Nat}{a c:List Int}(b:stEqB P t a.length=true)(h:a.length=c.length)(w:World) :
  (Op.equalIn 10000 t (.agg (a.map (Value.int .i64)).toArray) (.agg (c.map (Value.int .i64)).toArray)).run P w = .ok (decide (a=c)) w/\P.eqGuardType P.depth t=false:=by
 unfold stEqB at b;split at b
 ·rename_i fs hu;simp only[Vh,VF,beq_iff_eq]at b;obtain ⟨⟨⟨e,f⟩,i⟩,g⟩:=b;have d:P.fieldsOf t=fs:=by unfold Program.fieldsOf;rw[hu]
  refine ⟨?_,f⟩;rw[run_equalIn_struct w 9999 t _ _ (by rw[d];exact hu) e,d];have:=Qfg (P:=P) w a c 9998 h fs.toList 0 g (by simp;omega);simpa using this
 ·cases b
theorem m_eqS{t:Nat}{x y:Operand}{w:Nat}{xs ys:List DV}{b d:List Int}(z:stEqB P t b.length=true:=by kernel_rfl)(c:o.op = .binOp .eql t x y w:=by rfl)(B:opd env x = .agg xs:=by rfl)(u:opd env y = .agg ys:=by rfl)(s:QgG xs=some b:=by rfl)(A:QgG ys=some d:=by rfl)(v:b.length=d.length:=by rfl) :
  Qv P o env sto nxt ⟨.lit (.bool (decide (b=d))),[],[],0⟩:=.ran λF m a r g _ _=>by
 have e:=g x (by simp[c,Op.operands])
 have f:=g y (by simp[c,Op.operands])
 rw[B]at e
 rw[u]at f
 obtain ⟨C,j,k,l⟩:=e.agg_inv
 obtain ⟨D,n,p,q⟩:=f.agg_inv
 have h:=Qcr s ⟨k,l⟩
 have i:=Qcr A ⟨p,q⟩
 subst h
 subst i
 obtain ⟨r1,r2⟩:=run_eqS z v m.w
 refine Qcg rfl c r j n ?_
 rw[Sem.run_bind,run_eqGuard_agg m.w _ _ _ _ _ _ r2,Result.andThen_ok,run_eql_struct,r1]
 rfl
theorem m_neS{t:Nat}{x y:Operand}{w:Nat}{xs ys:List DV}{b d:List Int}(z:stEqB P t b.length=true:=by kernel_rfl)(c:o.op = .binOp .neq t x y w:=by rfl)(B:opd env x = .agg xs:=by rfl)(u:opd env y = .agg ys:=by rfl)(s:QgG xs=some b:=by rfl)(A:QgG ys=some d:=by rfl)(v:b.length=d.length:=by rfl) :
  Qv P o env sto nxt ⟨.lit (.bool (!decide (b=d))),[],[],0⟩:=.ran λF m a r g _ _=>by
 have e:=g x (by simp[c,Op.operands])
 have f:=g y (by simp[c,Op.operands])
 rw[B]at e
 rw[u]at f
 obtain ⟨C,j,k,l⟩:=e.agg_inv
 obtain ⟨D,n,p,q⟩:=f.agg_inv
 have h:=Qcr s ⟨k,l⟩
 have i:=Qcr A ⟨p,q⟩
 subst h
 subst i
 obtain ⟨r1,r2⟩:=run_eqS z v m.w
 refine Qcg rfl c r j n ?_
 rw[Sem.run_bind,run_eqGuard_agg m.w _ _ _ _ _ _ r2,Result.andThen_ok,run_neq_struct,r1]
 rfl
theorem ScS.one{k z:Nat}{a f:Bool}{α:Type}{c:α->List DV}{l:List α}(h:∀ x,∀ d∈c x,Sc d):ScS [(k,⟨z,a,f,l.map c⟩)]:=λs i b y e d g=>by
 rw[Sto.get_cons]at b;split at b
 ·injection b with b;subst b;obtain ⟨x,_,rfl⟩:=Wm.1 e;exact h x d g
 ·cases b
theorem ScS.nil:ScS []:=λs a h=>by cases h
theorem ScS.cons{k z:Nat}{a f:Bool}{α:Type}{c:α->List DV}{l:List α}{S:Sto}(h:∀ x,∀ d∈c x,Sc d)(j:ScS S):ScS ((k,⟨z,a,f,l.map c⟩) :: S):=λs i b y e d g=>by
 rw[Sto.get_cons]at b;split at b
 ·injection b with b;subst b;obtain ⟨x,_,rfl⟩:=Wm.1 e;exact h x d g
 ·exact j s i b y e d g
theorem ScS.box{k z:Nat}{f:Bool}{cs:List DV}{S:Sto}(h:∀ d∈cs,Sc d)(g:ScS S):ScS ((k,⟨z,false,f,[cs]⟩) :: S):=λs e a y b d c=>by
 rw[Sto.get_cons]at a;split at a
 ·injection a with a;subst a;obtain rfl:=Wn.1 b;exact h d c
 ·exact g s e a y b d c
end
abbrev w64(n:Int):Int:=IntKind.i64.wrap n
abbrev wu(n:Int):Int:=IntKind.u64.wrap n
section plain
variable{α β ρ σ:Type}
theorem bnd{x:Option α}{K:α->Option β}{r:β}(H:x.bind K=some r):∃ v,x=some v/\K v=some r:=Option.bind_eq_some_iff.1 H
theorem iT{p:Prop}[Decidable p]{A B:Option β}{r:β}(h:p)(H:(if p then A else B)=some r):A=some r:=by rwa [if_pos h]at H
theorem iF{p:Prop}[Decidable p]{A B:Option β}{r:β}(h:¬ p)(H:(if p then A else B)=some r):B=some r:=by rwa [if_neg h]at H
theorem ck{p:Prop}[Decidable p]{A:Option β}{r:β}(H:(if p then A else none)=some r):p/\A=some r:=by
 by_cases h:p
 ·exact ⟨h,iT h H⟩
 ·have:=iF h H;cases this
theorem som{a r:β}(H:some a=some r):a=r:=VC H
def at_(l:List α)(i:Int):Option α:=if 0<=i then l[i.toNat]? else none
theorem Qg1{l:List α}{i:Int}{v:α}(h:at_ l i=some v):0<=i/\l[i.toNat]?=some v:=ck h
theorem at_lt{l:List α}{i:Int}{v:α}(h:at_ l i=some v):0<=i/\i.toNat<l.length:=by
 obtain ⟨b,a⟩:=Qg1 h;refine ⟨b,?_⟩;rcases Ws i.toNat l.length with h' | h'
 ·exact h'
 ·rw[Wi h']at a;cases a
theorem at_elem{l:List α}{i:Int}{v:α}(h:at_ l i=some v):∃ h':i.toNat<l.length,l[i.toNat]=v:=by obtain ⟨c,a⟩:=Qg1 h;obtain ⟨_,b⟩:=at_lt h;rw[Wa b]at a;exact ⟨b,VC a⟩
inductive LS(σ β:Type) where
 | go (s:σ)
 | out (b:β)
def Qb0(f:σ->Option (LS σ β)):Nat->σ->Option β
 | 0,_=>none
 | n+1,s=>match f s with
  | none=>none
  | some (.go s')=>Qb0 f n s'
  | some (.out b)=>some b
theorem loopN_succ{f:σ->Option (LS σ β)}:∀ {n:Nat} {s:σ} {b:β},Qb0 f n s=some b->Qb0 f (n+1) s=some b
 | 0,_,_,h=>by cases h
 | n+1,s,b,h=>by
  unfold Qb0 at h ⊢;cases hf:f s with
  | none=>rw[hf]at h;cases h
  | some y =>
   rw[hf]at h;cases y with
   | go s'=>exact loopN_succ (n:=n) h
   | out b'=>exact h
theorem loopN_le{f:σ->Option (LS σ β)}{n m:Nat}{s:σ}{b:β}(h:Qb0 f n s=some b)(a:n<=m):Qb0 f m s=some b:=by
 induction a with
 | refl=>exact h
 | step _ ih=>exact loopN_succ ih
theorem loopN_one{f:σ->Option (LS σ β)}{n m:Nat}{s:σ}{b c:β}(h:Qb0 f n s=some b)(k:Qb0 f m s=some c):b=c:=by have d:=loopN_le h (Nat.le_max_left n m);have a:=loopN_le k (Nat.le_max_right n m);rw[d]at a;exact VC a
def Qf(f:σ->Option (LS σ β))(s:σ):Option β:=open Classical in if h:∃ b,∃ n,Qb0 f n s=some b then some (Classical.choose h) else none
theorem QaG{f:σ->Option (LS σ β)}{s:σ}{b:β}:Qf f s=some b<->∃ n,Qb0 f n s=some b:=by
 unfold Qf;constructor
 ·intro h;split at h
  ·rename_i a;rw[<- VC h];exact Classical.choose_spec a
  ·cases h
 ·rintro ⟨n,h⟩;have a:∃ b,∃ n,Qb0 f n s=some b:=⟨b,n,h⟩;rw[dif_pos a];obtain ⟨m,c⟩:=Classical.choose_spec a;rw[loopN_one c h]
theorem Qf4{f:σ->Option (LS σ β)}{s c:σ}(h:f s=some (.go c)):Qf f s=Qf f c:=by
 apply Option.ext;intro b;rw[QaG,QaG];constructor
 ·rintro ⟨n,a⟩;cases n with
  | zero=>cases a
  | succ n=>unfold Qb0 at a;rw[h]at a;exact ⟨n,a⟩
 ·rintro ⟨n,a⟩;exact ⟨n+1,by unfold Qb0;rw[h];exact a⟩
theorem QcY{f:σ->Option (LS σ β)}{s:σ}{b:β}(h:f s=some (.out b)):Qf f s=some b :=
 QaG.2 ⟨1,by unfold Qb0;rw[h]⟩
theorem loop_run{f:σ->Option (LS σ β)}(I:Nat->σ):∀ (n k:Nat),(∀ j,k<=j->j<k+n->f (I j)=some (.go (I (j+1))))->Qf f (I k)=Qf f (I (k+n))
 | 0,k,_=>rfl
 | n+1,k,h=>by rw[Qf4 (h k (Wl _) Oo),loop_run I n (k+1) λj a b=>h j Oo Oo];congr 2;omega
theorem Qf3{f:σ->Option (LS σ β)}(I:Nat->σ)(n:Nat){b:β}(h:∀ j,j<n->f (I j)=some (.go (I (j+1))))(a:f (I n)=some (.out b)):Qf f (I 0)=some b:=by rw[loop_run I n 0 λj _ c=>h j Oo,W0];exact QcY a
def bndR(X:Option (β ⊕ ρ))(K:β->Option ρ):Option ρ:=X.bind λz=>match z with
 | .inl b=>K b
 | .inr r=>some r
@[simp] theorem bndR_none(K:β->Option ρ):bndR none K=none:=rfl
@[simp] theorem bndR_inl(b:β)(K:β->Option ρ):bndR (some (.inl b)) K=K b:=rfl
@[simp] theorem bndR_inr(r:ρ)(K:β->Option ρ):bndR (some (.inr r)) K=some r:=rfl
end plain
section
variable{P:Program}{nt n0:Nat}{Q:Exit->DSt->Prop}{st:DSt}{α β ρ σ:Type}
theorem d_cutF{x y:Code}{X:Option β}{K:β->Option ρ}{r:ρ}(I:β->DSt)(H:X.bind K=some r)
  (g:∀ z,X=some z->DWp P nt n0 x (QcT (λs=>ZB n0 s (I z)) Q) st)(f:∀ b,K b=some r->DWp P nt n0 y Q (I b)):DWp P nt n0 (.seq x y) Q st:=by
 obtain ⟨z,a,c⟩:=bnd H;refine d_cut I (λb=>b=z) ((g z a).mono λe s h=>?_) (λb d=>by subst d;exact f b c);cases e with
 | normal=>exact ⟨z,rfl,h⟩
 | _=>exact h
theorem d_cutR{x y:Code}{X:Option (β ⊕ ρ)}{K:β->Option ρ}{r:ρ}(I:β->DSt)(H:bndR X K=some r)
  (i:∀ z,X=some z->(∀ r',z = .inr r'->r'=r)->DWp P nt n0 x (QcT (λs=>∃ b,z = .inl b/\ZB n0 s (I b)) Q) st)(g:∀ b,K b=some r->DWp P nt n0 y Q (I b)):DWp P nt n0 (.seq x y) Q st:=by
 obtain ⟨z,d,a⟩:=bnd H;have c:∀ r',z = .inr r'->r'=r:=λr' e=>by subst e;exact VC a
 refine d_cut I (λb=>z = .inl b) ((i z d c).mono λe s h=>?_) (λb f=>by subst f;exact g b a);cases e with
 | normal=>exact h
 | _=>exact h
theorem d_loopF{c:Code}{f:σ->Option (LS σ β)}{d:σ}{z:β}(I:σ->DSt)(H:Qf f d=some z)(k:ZB n0 st (I d))
  (l:∀ s y,f s=some y->(∀ b,y = .out b->b=z)->DWp P nt n0 c (QcT (λs'=>∃ x',y = .go x'/\ZB n0 s' (I x')) Q) (I s)):DWp P nt n0 (.loop c) Q st:=by
 obtain ⟨n,g⟩:=QaG.1 H;refine d_loop (α:=Nat×σ) (λx=>I x.2) (λx=>Qb0 f x.1 x.2=some z) (λx=>x.1) (n,d) g k λx a=>?_;obtain ⟨m,s⟩:=x;cases m with
 | zero=>cases a
 | succ m =>
  unfold Qb0 at a;dsimp only at a ⊢;cases hf:f s with
  | none=>rw[hf]at a;cases a
  | some y =>
   rw[hf]at a;refine (l s y hf λb e=>by subst e;exact VC a).mono λe s' h=>?_;cases e with
   | normal =>obtain ⟨x',i,j⟩:=h;subst i;exact ⟨(m,x'),a,Nat.lt_succ_self m,j⟩
   | _=>exact h
theorem d_condE{c:Operand}{x y:Code}{b:Bool}(a:opd st.env c = .lit (.bool b))(e:b=true)(h:DWp P nt n0 x Q st):DWp P nt n0 (.cond c x y) Q st:=by subst e;exact d_condT a h
theorem d_condN{c:Operand}{x y:Code}{b:Bool}(a:opd st.env c = .lit (.bool b))(e:b=false)(h:DWp P nt n0 y Q st):DWp P nt n0 (.cond c x y) Q st:=by subst e;exact d_condF a h
end
section
variable{P:Program}{env:Env}{sto:Sto}{nxt:Nat}{o:Oper}{ops:Array Oper}{l:List Oper}{K:Qgi->DSt->Prop}
theorem gY{g t:Nat}{b c:Bool}(e:c=b)(f:o.guard=some (g,b):=by rfl)(a:(ops[g]?).bind (·.dst)=some t:=by rfl)(d:env.get t = .lit (.bool c):=by rfl):Grd ops o env:=.yes f a (e▸d)
theorem noE{g t:Nat}{b c:Bool}(e:c=!b)(k:Q0 P ops l ⟨env.put o.dst (.tup []),sto,nxt⟩ λouts=>K ((⟨.tup [],[],[],0⟩,nxt) :: outs))
  (a:o.guard=some (g,b):=by rfl)(d:(ops[g]?).bind (·.dst)=some t:=by rfl)(f:env.get t = .lit (.bool c):=by rfl):Q0 P ops (o :: l) ⟨env,sto,nxt⟩ K :=
 Q0.cons' (out:=⟨.tup [],[],[],0⟩) (by unfold Qer;rw[a];exact ⟨t,d,.inr (.inl ⟨.inl (e▸f),.inr rfl⟩)⟩) k
theorem noU{g t:Nat}{b:Bool}(k:Q0 P ops l ⟨env.put o.dst (.tup []),sto,nxt⟩ λouts=>K ((⟨.tup [],[],[],0⟩,nxt) :: outs))
  (a:o.guard=some (g,b):=by rfl)(c:(ops[g]?).bind (·.dst)=some t:=by rfl)(d:env.get t = .tup []:=by rfl):Q0 P ops (o :: l) ⟨env,sto,nxt⟩ K :=
 Q0.cons' (out:=⟨.tup [],[],[],0⟩) (by unfold Qer;rw[a];exact ⟨t,c,.inr (.inl ⟨.inr d,.inr rfl⟩)⟩) k
theorem m_pickE{c x y:Operand}{t u:Bool}(e:t=u)(b:o.op = .pick c x y:=by rfl)(a:opd env c = .lit (.bool t):=by rfl):Qv P o env sto nxt ⟨cond u (opd env x) (opd env y),[],[],0⟩:=by subst e;exact m_pick b a
theorem m_quo{t:Nat}{x y:Operand}{c:Nat}{k:IntKind}{p q:Int}(h:¬ q=0)(a:o.op = .binOp .quo t x y c:=by rfl)(d:opd env x = .lit (.int k p):=by rfl)(b:opd env y = .lit (.int k q):=by rfl):Qv P o env sto nxt ⟨.lit (.int k (k.wrap (p.tdiv q))),[],[],0⟩ :=
 Qfr a d b (by unfold Xo;dsimp only;rw[if_neg h])
theorem m_rem{t:Nat}{x y:Operand}{c:Nat}{k:IntKind}{p q:Int}(h:¬ q=0)(a:o.op = .binOp .rem t x y c:=by rfl)(d:opd env x = .lit (.int k p):=by rfl)(b:opd env y = .lit (.int k q):=by rfl):Qv P o env sto nxt ⟨.lit (.int k (p.tmod q)),[],[],0⟩ :=
 Qfr a d b (by unfold Xo;dsimp only;rw[if_neg h])
theorem m_shl{t:Nat}{x y:Operand}{c:Nat}{k j:IntKind}{p q:Int}(h:0<=q)(a:o.op = .binOp .shl t x y c:=by rfl)(d:opd env x = .lit (.int k p):=by rfl)(b:opd env y = .lit (.int j q):=by rfl):Qv P o env sto nxt ⟨.lit (.int k (k.wrap (p*2^min q.toNat k.bits))),[],[],0⟩ :=
 r_shift a d b (by unfold Xi;rw[if_neg Oo])
theorem m_shr{t:Nat}{x y:Operand}{c:Nat}{k j:IntKind}{p q:Int}(h:0<=q)(a:o.op = .binOp .shr t x y c:=by rfl)(d:opd env x = .lit (.int k p):=by rfl)(b:opd env y = .lit (.int j q):=by rfl):Qv P o env sto nxt ⟨.lit (.int k (p.fdiv (2^min q.toNat k.bits))),[],[],0⟩ :=
 r_shift a d b (by unfold Xi;rw[if_neg Oo])
theorem m_neg{t:Nat}{x:Operand}{k:IntKind}{p:Int}(b:o.op = .unOp .neg t x:=by rfl)(a:opd env x = .lit (.int k p):=by rfl):Qv P o env sto nxt ⟨.lit (.int k (k.wrap (0-p))),[],[],0⟩:=r_neg b a
theorem m_iaS{α:Type}{c:α->List DV}{xs:List α}{v:α}{n:Int}{t e:Nat}{x b:Operand}{d a:TyD}{k:IntKind}(h:at_ xs n=some v)(p:QB P t d)(m:QB P e a)(j:o.op = .indexAddr t x b:=by rfl)(i:d.k = .slice e:=by rfl)
  (r:opd env x = .sl (xs.map c):=by rfl)(q:opd env b = .lit (.int k n):=by rfl)(l:(c v).length=a.size:=by rfl):Qv P o env sto nxt ⟨.pp (c v),[],[],0⟩:=by obtain ⟨f,g⟩:=at_lt h;obtain ⟨s,rfl⟩:=at_elem h;exact r_iaM j p i m r (by rw[Vl f];exact q) g l
theorem m_iaO{α:Type}{xs:List α}{v:α}{n:Int}{s len:Nat}{b:Ob}{t e:Nat}{x c:Operand}{d a:TyD}{k:IntKind}(h:at_ xs n=some v)(l:QB P t d)(j:QB P e a)(i:o.op = .indexAddr t x c)(q:opd env x = .own s 0 len)(w:xs.length=len)(g:d.k = .slice e:=by rfl)
  (p:opd env c = .lit (.int k n):=by rfl)(m:sto.get s=some b:=by rfl)(r:b.esz=a.size:=by rfl):Qv P o env sto nxt ⟨.ptr s n.toNat 0,[],[s],0⟩:=by obtain ⟨f,u⟩:=at_lt h;have:=r_iaO (P:=P) (nxt:=nxt) i l g j q (by rw[Vl f];exact p) m r Oo;rw[W0]at this;exact this
theorem m_ldO{α:Type}{c:α->List DV}{xs:List α}{v:α}{n:Int}{t:Nat}{p:Operand}{a:TyD}{s j z:Nat}{arr frz:Bool}{d:DV}(h:at_ xs n=some v)(i:QB P t a)(g:o.op = .load t p:=by rfl)(f:opd env p = .ptr s n.toNat j:=by rfl)(k:sto.get s=some ⟨z,arr,frz,xs.map c⟩:=by rfl)
  (e:ldD a ((c v).drop j)=some d:=by rfl):Qv P o env sto nxt ⟨d,[],[s],0⟩:=by obtain ⟨l,b⟩:=Qg1 h;exact r_load g i f k (by show (xs.map c)[n.toNat]?=some (c v);rw[Wh,b];rfl) e
theorem Z4{α:Type}{c:α->List DV}{xs:List α}{v:α}{n:Int}{t:Nat}{p x:Operand}{e:TyD}{s j z:Nat}{cs b:List DV}{us:List Nat}(h:at_ xs n=some v)(a:α)(q:QB P t e)(i:o.op = .store t p x:=by rfl)(g:opd env p = .ptr s n.toNat j:=by rfl)(r:sto.get s=some ⟨z,true,false,xs.map c⟩:=by rfl)
  (u:QbE e (opd env x)=some cs:=by rfl)(d:QbN sto cs=some (b,us):=by rfl)(m:us.contains s=false:=by rfl)(k:j+cs.length<=(c v).length:=by exact V0 rfl)(l:setCells (c v) j b=c a:=by rfl) :
  Qv P o env sto nxt ⟨.any,(s,some ⟨z,true,false,(xs.set n.toNat a).map c⟩) :: QdP sto us,s :: us,0⟩:=by obtain ⟨w,f⟩:=Qg1 h;have:=r_storeA (P:=P) (nxt:=nxt) i q g r rfl rfl u d m (by show (xs.map c)[n.toNat]?=some (c v);rw[Wh,f];rfl) k;rw[l]at this;rwa [show (xs.set n.toNat a).map c=(xs.map c).set n.toNat (c a) by rw[YQ]]
theorem Qj{α:Type}{c:α->List DV}(xs:List α){t e len:Nat}{parts:Array (Nat×Operand)}{l:List (Nat×Operand)}{g d:TyD}{b a:List DV}{r us:List Nat}(x:QB P t g)(s:QB P e d)(q:o.op = .buildSlice t len parts:=by rfl)(j:parts=l.toArray:=by rfl)(m:g.k = .slice e:=by rfl)
  (y:d.zero.length=d.size:=by rfl)(w:0<d.size:=by decide)(v:0<len:=by decide)(n:len*d.size<=16777216:=by decide)
  (h:QdQ sto (λi=>some (i*d.size,d.size)) (QdJ d len) (l.map λp=>(p.1,opd env p.2))=some (b,r):=by rfl)(f:QbN sto b=some (a,us):=by rfl)(k:QbD len d.size a=xs.map c:=by rfl)(u:len=xs.length:=by rfl) :
  Qv P o env sto nxt ⟨.own nxt 0 xs.length,(nxt,some ⟨d.size,true,false,xs.map c⟩) :: QdP sto us,r++us,1⟩:=by have:=r_lit (P:=P) (nxt:=nxt) q j x m s y w v n h f;rw[k,u]at this;exact this
theorem m_mkE{α:Type}{c:α->List DV}{n B:Int}(a:α){t e:Nat}{x y:Operand}{d b:TyD}{k:IntKind}(h:0<=n/\n*B<=281474976710656/\n<=9223372036854775807)(s:QB P t d)(m:QB P e b)(j:o.op = .makeSlice t x y:=by rfl)(i:d.k = .slice e:=by rfl)(l:opd env x = .lit (.int k n):=by rfl)(u:opd env y = .lit (.int k n):=by rfl)
  (v:b.zero.length=b.size:=by rfl)(r:0<b.size:=by decide)(p:b.zero=c a:=by rfl)(q:(b.bytes:Int)=B:=by rfl) :
  Qv P o env sto nxt ⟨.own nxt 0 (List.replicate n.toNat a).length,[(nxt,some ⟨b.size,true,false,(List.replicate n.toNat a).map c⟩)],[],1⟩:=by
 subst q;obtain ⟨f,g,w⟩:=h;have e:=Vl f;have:=r_make (P:=P) (nxt:=nxt) (sto:=sto) (n:=n.toNat) j s i m (by rw[e];exact l) (by rw[e];exact u) (by
  have:((b.bytes*n.toNat:Nat):Int)<=281474976710656:=by push_cast;rw[e,Int.mul_comm];exact g
  omega) Oo v r
 rw[p]at this;rw[W2,US];exact this
def QdK:DV->DV
 | .lit (.slice none 0 0)=>.sl []
 | d=>d
theorem m_mkZ{α:Type}{c:α->List DV}{n B:Int}(a:α){t e:Nat}{x y:Operand}{g b:TyD}{k:IntKind}(h:0<=n/\n*B<=281474976710656/\n<=9223372036854775807)(A:QB P t g)(s:QB P e b)(q:o.op = .makeSlice t x y:=by rfl)(p:g.k = .slice e:=by rfl)(r:opd env x = .lit (.int k n):=by rfl)(C:opd env y = .lit (.int k n):=by rfl)
  (i:b.zero.length=b.size:=by rfl)(z:0<b.size:=by decide)(v:b.zero.map QdK=c a:=by rfl)(w:(b.bytes:Int)=B:=by rfl) :
  Qv P o env sto nxt ⟨.own nxt 0 (List.replicate n.toNat a).length,[(nxt,some ⟨b.size,true,false,(List.replicate n.toNat a).map c⟩)],[],1⟩:=by
 subst w;obtain ⟨l,m,D⟩:=h;have e:=Vl l;have:=r_makeZ (P:=P) (nxt:=nxt) (sto:=sto) (n:=n.toNat) q A p s (by rw[e];exact r) (by rw[e];exact C) (by
  have:((b.bytes*n.toNat:Nat):Int)<=281474976710656:=by push_cast;rw[e,Int.mul_comm];exact m
  omega) Oo i z (b.zero.map QdK) (by rw[Wb];exact i) (λj d f=>by
   rw[Wh]at f
   cases hq:b.zero[j]? with
   | none=>rw[hq]at f;cases f
   | some u =>
    rw[hq]at f
    injection f with f
    subst f
    unfold QdK
    split
    ·exact .inr ⟨rfl,rfl⟩
    ·exact .inl rfl)
 rw[v]at this;rw[W2,US];exact this
inductive ElE(env:Env)(sto:Sto)(z:Nat):Operand->List (List DV)->List Nat->Prop
 | nil {x:Operand}:opd env x = .lit (.slice none 0 0)->ElE env sto z x [] []
 | sl {xs:List (List DV)} {x:Operand}:opd env x = .sl xs->(∀ y∈xs,y.length=z)->ElE env sto z x xs []
 | own {xs:List (List DV)} {x:Operand} {s len:Nat} {frz:Bool}:opd env x = .own s 0 len->sto.get s=some ⟨z,true,frz,xs⟩->len=xs.length->(∀ y∈xs,y.length=z)->ElE env sto z x xs [s]
theorem ElE.ok{z:Nat}{x:Operand}{ys:List (List DV)}{a:List Nat}(h:ElE env sto z x ys a):elsF sto (opd env x)=some (ys,a)/\∀ y∈ys,y.length=z:=by
 cases h with
 | nil h=>rw[h];exact ⟨rfl,λy b=>by cases b⟩
 | sl h hz=>rw[h];exact ⟨rfl,hz⟩
 | own h hs hl hz =>rw[h];subst hl;refine ⟨?_,hz⟩;unfold elsF;simp only[hs];rw[if_pos ⟨trivial,Os⟩,UN,WD Os]
theorem nat_le{a b:Nat}(h:(a:Int)<=(b:Int)):a<=b:=by omega
theorem Qg{α:Type}{c:α->List DV}{z:Nat}(h:∀ a,(c a).length=z)(xs:List α):∀ y∈xs.map c,y.length=z:=λy b=>by obtain ⟨a,_,rfl⟩:=Wm.1 b;exact h a
theorem Qco{α:Type}{c:α->List DV}(ys:List α){t e:Nat}{s x:Operand}{f b:TyD}{d:List Nat}{B:Int}(p:(ys.length:Int)*B<=140737488355328/\(ys.length:Int)<=9223372036854775807)(n:QB P t f)(k:QB P e b)(j:o.op = .call ⟨.builtin .append,#[s,x],#[t,t]⟩)(r:ElE env sto b.size x (ys.map c) d)(i:f.k = .slice e:=by rfl)
  (q:opd env s = .lit (.slice none 0 0):=by rfl)(u:b.zero.length=b.size:=by rfl)(m:0<b.size:=by decide)(l:(b.bytes:Int)=B:=by rfl) :
  Qv P o env sto nxt ⟨.own nxt 0 ys.length,[(nxt,some ⟨b.size,true,false,ys.map c⟩)],d,1⟩:=by subst l;obtain ⟨g,h⟩:=r.ok;have:=r_appN (P:=P) (nxt:=nxt) j n i k q g u m h (by rw[Wb];exact nat_le (a:=_*_) p.1) (by rw[Wb];unfold maxLen;omega);rw[Wb]at this;exact this
theorem Q3{α:Type}{c:α->List DV}(xs ys:List α){t e k len:Nat}{s x:Operand}{f b:TyD}{d:List Nat}{B:Int}(r:((xs.length:Int)+ys.length)*B<=140737488355328/\(xs.length:Int)+ys.length<=9223372036854775807)(q:QB P t f)(l:QB P e b)(j:o.op = .call ⟨.builtin .append,#[s,x],#[t,t]⟩)(u:opd env s = .own k 0 len)(w:ElE env sto b.size x (ys.map c) d)(m:xs.length=len)(i:f.k = .slice e:=by rfl)
  (v:sto.get k=some ⟨b.size,true,false,xs.map c⟩:=by rfl)(y:b.zero.length=b.size:=by rfl)(p:0<b.size:=by decide)(n:(b.bytes:Int)=B:=by rfl) :
  Qv P o env sto nxt ⟨.own nxt 0 (xs++ys).length,[(k,none),(nxt,some ⟨b.size,true,false,(xs++ys).map c⟩)],k :: d,1⟩:=by subst n;obtain ⟨g,h⟩:=w.ok;subst m;have:=r_app (P:=P) (nxt:=nxt) j q i l u v g rfl rfl Os rfl y p h (by rw[Wb];exact nat_le (a:=(_+_)*_) r.1) (by rw[Wb];unfold maxLen;omega);dsimp only at this;rw[Wb,WD Os,<- WP,<- We]at this;exact this
theorem m_slS{α:Type}{c:α->List DV}{xs:List α}{a b:Int}{t e:Nat}{x:Operand}{f g:Option Operand}{j i:TyD}(h:0<=a/\a<=b/\b<=xs.length)(z:QB P t j)(v:QB P e i)
  (s:(f=none/\a=0)\/∃ y k,f=some y/\opd env y = .lit (.int k a))(w:(g=none/\b=xs.length)\/∃ y k,g=some y/\opd env y = .lit (.int k b))
  (r:o.op = .slice t x f g none:=by rfl)(q:j.k = .slice e:=by rfl)(A:opd env x = .sl (xs.map c):=by rfl)(B:∀ a,(c a).length=i.size:=by exact λ_=>rfl) :
  Qv P o env sto nxt ⟨.sl (((xs.take b.toNat).drop a.toNat).map c),[],[],0⟩:=by
 obtain ⟨p,C,D⟩:=h;have m:=Vl p;have n:=Vl (show 0<=b by omega);obtain ⟨l,b1,l1⟩:∃ l,Bnd env f l/\l.getD 0=a.toNat:=by
  rcases s with ⟨rfl,rfl⟩ | ⟨y,k,rfl,d⟩
  ·exact ⟨none,.none,rfl⟩
  ·exact ⟨some a.toNat,.some (k:=k) (by rw[m];exact d),rfl⟩
 obtain ⟨u,b2,u1⟩:∃ u,Bnd env g u/\u.getD (xs.map c).length=b.toNat:=by
  rcases w with ⟨rfl,rfl⟩ | ⟨y,k,rfl,d⟩
  ·exact ⟨none,.none,Os⟩
  ·exact ⟨some b.toNat,.some (k:=k) (by rw[n];exact d),rfl⟩
 have:=r_slS (P:=P) (sto:=sto) (nxt:=nxt) r z q v A b1 b2 (by rw[l1,u1];omega) (by rw[u1,Wb];omega) (λy d=>by
  obtain ⟨a,_,rfl⟩:=Wm.1 (List.mem_of_mem_head? d)
  exact B a)
 rw[l1,u1]at this;rw[Y9,UK];exact this
theorem Cv.ownE{sto:Sto}{ρ:Ren}{s b len a:Nat}(h:ρ.get b=some s)(e:len=a):Cv sto ρ (.own s 0 len) (.own b 0 a) []:=e▸.own h
end
structure Fe where
 ow:Int
 st:Int
 nx:Int
structure Sp where
 sh:Int
 ws:List Int
 fs:List Fe
def uC(x:Int):List DV:=[DU x]
def iC(x:Int):List DV:=[DI x]
def bC(x:Bool):List DV:=[DB x]
def frC(f:Fe):List DV:=[DI f.ow,DI f.st,DI f.nx]
def spC(s:Sp):List DV:=[DI s.sh,.sl (s.ws.map uC),.sl (s.fs.map frC)]
def bP(p:Prop):Bool:=@decide p (Classical.propDecidable p)
theorem Qa5{p:Prop}(h:p):bP p=true:=by unfold bP;exact @decide_eq_true p (Classical.propDecidable p) h
theorem Qfm{p:Prop}(h:¬ p):bP p=false:=by unfold bP;exact @decide_eq_false p (Classical.propDecidable p) h
theorem QI{p:Prop}:bP p=true<->p:=⟨λh=>Classical.byContradiction λa=>(by rw[Qfm a]at h;cases h),Qa5⟩
theorem DCall.t{P:Program}{f:Nat}{ds:List DV}{S a:Sto}{p:Prop}(h:DCall P f ds S (DB (bP p)) a)(b:p):DCall P f ds S (DB true) a:=by rw[<- Qa5 b];exact h
theorem DCall.f{P:Program}{f:Nat}{ds:List DV}{S a:Sto}{p:Prop}(h:DCall P f ds S (DB (bP p)) a)(b:¬ p):DCall P f ds S (DB false) a:=by rw[<- Qfm b];exact h
theorem Cv.t{sto:Sto}{ρ:Ren}{p:Prop}(h:p):Cv sto ρ (DB true) (DB (bP p)) []:=by rw[Qa5 h];exact .lit
theorem Cv.f{sto:Sto}{ρ:Ren}{p:Prop}(h:¬ p):Cv sto ρ (DB false) (DB (bP p)) []:=by rw[Qfm h];exact .lit
theorem Cv.b{sto:Sto}{ρ:Ren}{p:Prop}{b:Bool}(h:b=true<->p):Cv sto ρ (DB b) (DB (bP p)) []:=by
 cases b with
 | true=>exact Cv.t (h.1 rfl)
 | false=>exact Cv.f λa=>by have:=h.2 a;cases this
def QcQ(x:Int):Prop:=3<=x/\x<=8
def AllZ(l:List Int):Prop:=∀ x∈l,x=0
def I64(x:Int):Prop:=-9223372036854775808<=x/\x<=9223372036854775807
def szS(s:Sp):Nat:=2^s.sh.toNat
theorem sh_get{s:Sp}(c:QcQ s.sh):∃ e z:Nat,s.sh=(e:Int)/\3<=e/\e<=8/\(2:Int)^e=(z:Int)/\8<=z/\z<=256/\szS s=z/\z=2^e:=by
 unfold QcQ at c;obtain ⟨e,he⟩:∃ e:Nat,s.sh=e:=⟨s.sh.toNat,Oo⟩;have a:3<=e:=by omega
 have b:e<=8:=by omega
 refine ⟨e,2^e,he,a,b,by push_cast;rfl,?_,?_,by unfold szS;rw[he];rfl,rfl⟩
 ·have:(2:Nat)^3<=2^e:=UE Od a;omega
 ·have:(2:Nat)^e<=2^8:=UE Od b;omega
theorem Jo{s:Sp}(g:QcQ s.sh):0<=s.sh/\s.sh<=8/\8<=szS s/\szS s<=256/\(2:Int)^s.sh.toNat=(szS s:Int):=by obtain ⟨e,z,a,h,i,b,c,d,f,j⟩:=sh_get g;rw[f];refine ⟨Oo,Oo,c,d,?_⟩;rw[<- b,a];rfl
theorem and_mod{a:Int}{e z:Nat}(i:0<=a)(h:a<=9223372036854775807)(f:e<=8)(g:z=2^e):bits BinOp.and IntKind.i64 a ((z:Int)-1)=a%(z:Int):=by
 obtain ⟨n,rfl⟩:∃ n:Nat,a=n:=⟨a.toNat,Oo⟩;subst g;have c:(2:Nat)^e<=2^8:=UE Od f;have b:0<(2:Nat)^e:=Nat.pow_pos Od;have d:(((2^e:Nat):Int)-1)=((2^e-1:Nat):Int):=by omega
 rw[d];show IntKind.i64.wrap ((BitVec.ofInt 64 (n:Int) &&& BitVec.ofInt 64 ((2^e-1:Nat):Int)).toNat:Int)=_;rw[BitVec.ofInt_natCast,BitVec.ofInt_natCast,BitVec.toNat_and,BitVec.toNat_ofNat,BitVec.toNat_ofNat,VE Oo,VE Oo,Yp];have:=UJ n b;rw[IntWalk.i64_in _ Oo];rfl
def nxF(fs:List Fe)(f:Int):Int:=if h:0<=f/\f.toNat<fs.length then(fs[f.toNat]'h.2).nx else -1
theorem nxF_z{fs:List Fe}{f:Int}(h:0<=f)(a:f.toNat<fs.length):nxF fs f=(fs[f.toNat]'a).nx:=by unfold nxF;rw[dif_pos ⟨h,a⟩]
def itF(fs:List Fe):Nat->Int->Int
 | 0,f=>f
 | k+1,f=>itF fs k (nxF fs f)
theorem nxF_neg{fs:List Fe}{f:Int}(h:f<0):nxF fs f = -1:=by unfold nxF;rw[dif_neg Oo]
theorem nxF_at{fs:List Fe}{i:Nat}(h:i<fs.length):nxF fs i=fs[i].nx:=by unfold nxF;rw[dif_pos ⟨Oo,by simpa using h⟩];rfl
theorem XN{fs:List Fe}:∀ (k:Nat) {f:Int},f = -1->itF fs k f = -1
 | 0,f,h=>h
 | k+1,f,h=>by unfold itF;exact XN k (nxF_neg Oo)
theorem J1{fs:List Fe}:∀ (j k:Nat) (f:Int),itF fs (j+k) f=itF fs k (itF fs j f)
 | 0,k,f=>by rw[W0];rfl
 | j+1,k,f=>by rw[show j+1+k=(j+k)+1 by omega];show itF fs (j+k) (nxF fs f)=itF fs k (itF fs j (nxF fs f));exact J1 j k _
theorem itF_succ{fs:List Fe}(k:Nat)(f:Int):itF fs (k+1) f=nxF fs (itF fs k f):=J1 k 1 f
def NxIn(fs:List Fe):Prop:=∀ i (h:i<fs.length),-1<=fs[i].nx/\fs[i].nx<fs.length
theorem NxIn.nx{fs:List Fe}(h:NxIn fs)(f:Int):-1<=nxF fs f/\nxF fs f<fs.length:=by
 unfold nxF;split
 ·exact h _ _
 ·omega
theorem NxIn.it{fs:List Fe}(h:NxIn fs):∀ (k:Nat) (f:Int),-1<=f/\f<fs.length->-1<=itF fs k f/\itF fs k f<fs.length
 | 0,f,hf=>hf
 | k+1,f,_=>h.it k _ (h.nx f)
def EndF(fs:List Fe):Prop:=∀ i,i<fs.length->itF fs (fs.length+1) i = -1
def StrF(fs:List Fe):Prop:=∀ i,i<fs.length->∀ k,k<fs.length->itF fs (k+1) i≠i
theorem Qdp:∀ (n:Nat) (l:List Nat),l.Nodup->(∀ x∈l,x<n)->l.length<=n
 | 0,l,_,h=>by
  cases l with
  | nil=>simp
  | cons a l=>exact absurd (h a (WH ..)) (WT _)
 | n+1,l,hd,h=>by
  have i:=Qdp n (l.filter (·≠n)) (hd.filter _) λx g=>by
   have:=WX.1 g;have j:=h x this.1;have k:x≠n:=by simpa using this.2
   omega
  have j:l.length<=(l.filter (·≠n)).length+1:=by
   have e:l.length=(l.filter (·≠n)).length+(l.filter (λx=>!decide (x≠n))).length:=by
    clear i h hd;induction l with
    | nil=>rfl
    | cons a l ih =>
     by_cases f:a=n
     ·rw[VB,VB,if_neg (by simp[f]),if_pos (by simp[f]),W3,W3];omega
     ·rw[VB,VB,if_pos (by simp[f]),if_neg (by simp[f]),W3,W3];omega
   have k:(l.filter (λx=>!decide (x≠n))).length<=1:=by
    have c:=hd.filter (λx=>!decide (x≠n));have d:∀ x∈l.filter (λx=>!decide (x≠n)),x=n:=λx g=>by have:=(WX.1 g).2;simpa using this
    revert c d;generalize l.filter (λx=>!decide (x≠n))=m;intro c d;match m,c,d with
    | [],_,_=>simp
    | [a],_,_=>simp
    | a :: b :: m,c,d =>exfalso;have f:=d a Os;have o:=d b Os;exact (Vw.1 c).1 b Os (f.trans o.symm)
   omega
  omega
theorem EndF.str{fs:List Fe}(h:EndF fs):StrF fs:=by
 intro i c k d e;have b:∀ m:Nat,itF fs ((k+1)*m) i=i:=by
  intro m;induction m with
  | zero=>rfl
  | succ m ih=>rw[Nat.mul_succ,J1,ih,e]
 have a:=b (fs.length+1);rw[VG,Nat.mul_succ]at a;rw[show (fs.length+1)*k+(fs.length+1)=(fs.length+1)+(fs.length+1)*k by omega,J1,h i c,XN _ rfl]at a;omega
theorem StrF.ends{fs:List Fe}(r:NxIn fs)(h:StrF fs):EndF fs:=by
 intro i s;apply Classical.byContradiction;intro f;have c:∀ j,j<=fs.length+1->0<=itF fs j i/\itF fs j i<fs.length:=by
  intro j l;have g:=r.it j i Oo;refine ⟨?_,g.2⟩;rcases U5 (itF fs j i) 0 with h2 | h2
  ·exfalso;apply f;rw[show fs.length+1=j+(fs.length+1-j) by omega,J1];exact XN _ Oo
  ·exact h2
 have d:((List.range (fs.length+1)).map λj=>(itF fs j i).toNat).Nodup:=by
  rw[Vd,Vs];refine WA.2 λa b n o p e=>?_;simp only[WS]at n o;simp only[UT]at e;have g:=c a Oo;have h2:=c b Oo;have k:itF fs b i=itF fs a i:=by omega
  rw[show b=a+((b-a-1)+1) by omega,J1]at k;have m:=h (itF fs a i).toNat Oo (b-a-1) Oo;apply m;rw[show (((itF fs a i).toNat:Nat):Int)=itF fs a i by omega];exact k
 have:=Qdp fs.length _ d λx q=>by obtain ⟨j,l,rfl⟩:=Wm.1 q;have:=c j (by have:=WE.1 l;omega);omega
 rw[Wb,WS]at this;omega
def Stp(a c:Int):Prop:=0<=a/\a<=4294967295/\∃ b:Int,0<=b/\b<4/\c=a+b*4294967296
theorem QeI{c a:Int}:Stp c a<->0<=c/\c<=4294967295/\0<=a/\a%4294967296=c/\a/4294967296<4:=by
 unfold Stp;constructor
 ·rintro ⟨d,e,b,f,g,rfl⟩;omega
 ·rintro ⟨d,e,f,g,h⟩;exact ⟨d,e,a/4294967296,Oo,h,Oo⟩
def ZeroF(s:Sp)(i:Nat):Prop:=∀ a (h:a<s.ws.length),i*szS s<=a->a<(i+1)*szS s->s.ws[a]=0
def Qfy(s:Sp)(i:Nat)(f:Fe):Prop:=f.ow = -1/\f.st = -1/\f.nx = -1/\ZeroF s i
def QcL(s:Sp)(i:Nat)(f:Fe):Prop:=Stp f.ow f.st/\-1<=f.nx/\f.nx<s.fs.length/\f.nx≠i/\∀ j (h:j<s.fs.length),f.nx=j->s.fs[j].ow=f.ow/\s.fs[j].st=f.st
def UqF(fs:List Fe)(n:Nat):Prop:=∀ i j (hi:i<fs.length) (hj:j<fs.length),i<j->j<n->fs[i].nx=fs[j].nx->fs[i].nx = -1
structure Qdx(s:Sp):Prop where
 sh:QcQ s.sh
 lo:2<=s.fs.length
 hi:s.fs.length<=64
 wl:s.ws.length=s.fs.length*szS s
structure Zn(s:Sp):Prop where
 shp:Qdx s
 fm:∀ i (h:i<s.fs.length),Qfy s i s.fs[i]\/QcL s i s.fs[i]
 uq:UqF s.fs s.fs.length
 ends:EndF s.fs
theorem Q2{s:Sp}(b:∀ i (h:i<s.fs.length),Qfy s i s.fs[i]\/QcL s i s.fs[i]):NxIn s.fs:=λi a=>by
 rcases b i a with h | h
 ·rw[h.2.2.1];omega
 ·exact ⟨h.2.1,h.2.2.1⟩
def U64(x:Int):Prop:=0<=x/\x<=18446744073709551615
def SpW(s:Sp):Prop:=(∀ x∈s.ws,U64 x)/\∀ f∈s.fs,I64 f.ow/\I64 f.st/\I64 f.nx
def QeF(fs:List Fe)(n m:Nat):Prop:=m<18446744073709551616/\∀ j,j<64->(m.testBit j=true<->∃ i,∃ h:i<fs.length,i<n/\fs[i].nx=j)
theorem bit_test{m j:Nat}(c:m<18446744073709551616)(e:j<64):bits BinOp.and IntKind.u64 ((m:Int)/2^j) 1=if m.testBit j then 1 else 0:=by
 have a:((m:Int)/2^j)=((m/2^j:Nat):Int):=by push_cast;rfl
 have d:m/2^j<18446744073709551616:=YB (Nat.div_le_self _ _) c;rw[a];show IntKind.u64.wrap ((BitVec.ofInt 64 ((m/2^j:Nat):Int) &&& BitVec.ofInt 64 ((1:Nat):Int)).toNat:Int)=_;rw[BitVec.ofInt_natCast,BitVec.ofInt_natCast,BitVec.toNat_and,BitVec.toNat_ofNat,BitVec.toNat_ofNat,VE Oo,VE Od,Nat.and_one_is_mod];have b:m.testBit j=(m/2^j%2 == 1):=by rw[Nat.testBit_eq_decide_div_mod_eq];rfl
 rw[b];rw[IntWalk.u64_in _ Oo];rcases Nat.mod_two_eq_zero_or_one (m/2^j) with h | h <;> rw[h] <;> rfl
theorem bit_set{m j:Nat}(e:m<18446744073709551616)(c:j<64):bits BinOp.or IntKind.u64 (m:Int) (2^j)=((m ||| 2^j:Nat):Int)/\m ||| 2^j<18446744073709551616:=by
 have a:((2:Int)^j)=((2^j:Nat):Int):=by push_cast;rfl
 have b:(2:Nat)^j<2^64:=U2 Od c;have d:m ||| 2^j<2^64:=YH Oo b;rw[a];refine ⟨?_,Oo⟩;show IntKind.u64.wrap ((BitVec.ofInt 64 (m:Int) ||| BitVec.ofInt 64 ((2^j:Nat):Int)).toNat:Int)=_;rw[BitVec.ofInt_natCast,BitVec.ofInt_natCast,BitVec.toNat_or,BitVec.toNat_ofNat,BitVec.toNat_ofNat,VE Oo,VE Oo,IntWalk.u64_in _ Oo]
theorem QeF.skip{fs:List Fe}{n m:Nat}(h:QeF fs n m)(f:n<fs.length)(e:fs[n].nx<0):QeF fs (n+1) m:=⟨h.1,λj d=>(h.2 j d).trans ⟨λ⟨i,a,c,b⟩=>⟨i,a,Oo,b⟩,λ⟨i,a,c,b⟩=>by
 rcases VK.1 c with h3 | h3
 ·exact ⟨i,a,h3,b⟩
 ·subst h3;omega⟩⟩
theorem QeF.set{fs:List Fe}{n m p:Nat}(h:QeF fs n m)(f:n<fs.length)(g:p<64)(k:fs[n].nx=p):QeF fs (n+1) (m ||| 2^p):=by
 refine ⟨(bit_set h.1 g).2,λj d=>?_⟩;rw[Nat.testBit_or,U9,VO,h.2 j d,decide_eq_true_iff];constructor
 ·rintro (⟨i,a,c,b⟩ | e)
  ·exact ⟨i,a,Oo,b⟩
  ·exact ⟨n,f,Oo,by rw[k,e]⟩
 ·rintro ⟨i,a,c,b⟩;rcases VK.1 c with h3 | h3
  ·exact .inl ⟨i,a,h3,b⟩
  ·subst h3;right;omega
theorem UqF.skip{fs:List Fe}{n:Nat}(h:UqF fs n)(g:n<fs.length)(f:fs[n].nx = -1):UqF fs (n+1):=λi j c d a b e=>by
 rcases VK.1 b with h3 | h3
 ·exact h i j c d a h3 e
 ·subst h3;rw[e];exact f
theorem UqF.set{fs:List Fe}{n m p:Nat}(h:UqF fs n)(o:n<fs.length)(k:QeF fs n m)(f:p<64)(l:fs[n].nx=p)(g:m.testBit p=false):UqF fs (n+1):=λi j c d a b e=>by
 rcases VK.1 b with h3 | h3
 ·exact h i j c d a h3 e
 ·subst h3;exfalso;have:=(k.2 p f).2 ⟨i,c,a,e.trans l⟩;rw[g]at this;cases this
theorem UqF.not{fs:List Fe}{n m p:Nat}(a:n<fs.length)(g:QeF fs n m)(e:p<64)(j:fs[n].nx=p)(f:m.testBit p=true):¬ UqF fs fs.length:=λh=>by obtain ⟨i,b,c,d⟩:=(g.2 p e).1 f;have:=h i n b a c a (d.trans j.symm);omega
def FmTo(s:Sp)(n:Nat):Prop:=∀ i (h:i<s.fs.length),i<n->Qfy s i s.fs[i]\/QcL s i s.fs[i]
theorem FmTo.step{s:Sp}{n:Nat}(h:FmTo s n)(c:n<s.fs.length)(k:Qfy s n s.fs[n]\/QcL s n s.fs[n]):FmTo s (n+1):=λi b a=>by
 rcases VK.1 a with h3 | h3
 ·exact h i b h3
 ·subst h3;exact k
theorem allz_iff{s:Sp}{k z:Nat}(d:szS s=z)(j:k*z+z<=s.ws.length):AllZ ((s.ws.drop (k*z)).take z)<->ZeroF s k:=by
 unfold ZeroF;rw[d,Vm];constructor
 ·intro h a e f g;have:s.ws[a]∈(s.ws.drop (k*z)).take z:=by refine WL.2 ⟨a-k*z,by rw[Wf,Wv];omega,?_⟩;rw[UF,UG];congr 1;omega
  exact h _ this
 ·intro h x c;obtain ⟨i,b,rfl⟩:=WL.1 c;rw[Wf,Wv]at b;rw[UF,UG];exact h _ _ Oo Oo
theorem Zn.not_fm{s:Sp}{n:Nat}(a:n<s.fs.length)(h:¬ (Qfy s n s.fs[n]\/QcL s n s.fs[n])):¬ Zn s:=λk=>h (k.fm n a)
def fC(x:Nat):List DV:=[.lit (.float .f64 x)]
def sC(x:ByteArray):List DV:=[.lit (.string x)]
def lC{α:Type}(c:α->List DV)(q:List α):List DV:=[.sl (q.map c)]
def Qbv(k:IntKind)(p q:Int):Int:=k.wrap (p*2^min q.toNat k.bits)
def QbV(k:IntKind)(p q:Int):Int:=p.fdiv (2^min q.toNat k.bits)
def xorN(k:IntKind)(p:Int):Int:=k.wrap (BitVec.ofInt k.bits (if k.signed then -1 else k.max) ^^^ BitVec.ofInt k.bits p).toNat
mutual
def scB:DV->Bool
 | .any=>true
 | .lit _=>true
 | .own _ _ _=>true
 | .ptr _ _ _=>true
 | .agg xs=>scLB xs
 | .tup xs=>scLB xs
 | _=>false
def scLB:List DV->Bool
 | []=>true
 | d :: l=>scB d && scLB l
end
mutual
theorem scB_ok:∀ {d:DV},scB d=true->Sc d
 | .any,_=>.any
 | .lit _,_=>.lit
 | .own _ _ _,_=>.own
 | .ptr _ _ _,_=>.ptr
 | .agg xs,h=>.agg (Qgp (by simpa [scB] using h))
 | .tup xs,h=>.tup (Qgp (by simpa [scB] using h))
 | .sl _,h=>by simp[scB]at h
 | .pp _,h=>by simp[scB]at h
 | .fn _ _,h=>by simp[scB]at h
theorem Qgp:∀ {l:List DV},scLB l=true->∀ d∈l,Sc d
 | [],_,d,hd=>by cases hd
 | x :: l,h,d,hd=>by
  simp only[scLB,Vh]at h;cases hd with
  | head=>exact scB_ok h.1
  | tail _ hd=>exact Qgp h.2 d hd
end
theorem scL{l:List DV}(h:scLB l=true):∀ d∈l,Sc d:=Qgp h
theorem scC{α:Type}{c:α->List DV}(h:∀ x,scLB (c x)=true):∀ x,∀ d∈c x,Sc d:=λx=>Qgp (h x)
theorem Q0.mono{P:Program}{ops:Array Oper}{l:List Oper}{e:DSt}{K f:Qgi->DSt->Prop}(h:Q0 P ops l e K)(j:∀ o s,K o s->f o s):Q0 P ops l e f:=by obtain ⟨a,b,c,d,g,i⟩:=h;exact ⟨a,b,c,d,g,j _ _ i⟩
section
variable{P:Program}{nt n0:Nat}{Q:Exit->DSt->Prop}{st:DSt}
theorem d_rs{id:Nat}{ops:Array Oper}{l:List Oper}{y:Code}(c:ops=l.toArray)(h:Q0 P l.toArray l st λouts s=>seqB nt l outs=true/\DWp P nt n0 y Q s):DWp P nt n0 (.seq (.region id ops false) y) Q st :=
 d_seq λK b=>d_region c (h.mono λo s a=>⟨a.1,b s a.2⟩)
theorem d_as{id:Nat}{ops:Array Oper}{l:List Oper}{y:Code}(c:P.follows .mixedOrders=true)(e:ops=l.toArray)(d:backB l.toArray=true)(h:Q0 P l.toArray l st λouts s=>(seqB nt l outs=true/\ordB l.toArray outs=true)/\DWp P nt n0 y Q s):DWp P nt n0 (.seq (.region id ops true) y) Q st :=
 d_seq λK b=>d_any c e d (h.mono λo s a=>⟨a.1,b s a.2⟩)
theorem d_nilB{c:Code}{env:Env}{sto:Sto}{nxt:Nat}(b j z:Nat)(hz:0<z){n:Nat}{R:Bool}{cs:List DV}(T:sto.get b=some ⟨n,false,R,[cs]⟩)(S:cs[j]?=some (.lit (.slice none 0 0)))
  (h:DWp P nt n0 c Q ⟨env,(b,⟨n,false,R,[cs.set j (.own nxt 0 0)]⟩) :: (nxt,⟨z,true,false,[]⟩) :: (sto.drop nxt).drop b,nxt+1⟩):DWp P nt n0 c Q ⟨env,sto,nxt⟩:=λC h1 h2 a w f=>by
 refine h C h1 h2 a w ?_
 obtain ⟨m,rfl,q,M⟩:=f
 have L:m.σ nxt=none:=M nxt (Wl _)
 obtain ⟨U,G⟩:=Qdn q.inv L m.w ⟨z,none,true,noI⟩ rfl rfl rfl (Wl _) (λ_ _=>rfl) (λg c h=>by cases h)
 have I:b≠nxt:=by rintro rfl;obtain ⟨e,N,_⟩:=q.sto _ _ T;rw[L]at N;cases N
 refine ⟨⟨m.w,m.M,Z3 m.σ nxt (some ⟨z,none,true,noI⟩)⟩,rfl,⟨U,q.M,q.size,q.defers,q.org.trans G.ent,q.lim0,λj=>(q.env j).ext G.toExt,λs ob f=>?_⟩,λs f=>?_⟩
 ·simp only[Sto.get_cons,Sto.drop_get]at f
  by_cases B:s=b
  ·subst B
   rw[if_pos rfl]at f
   injection f with f
   subst f
   have D:=QH.loc q.inv G (by simpa using I) (q.sto s _ T)
   obtain ⟨e,V,W,X,H⟩:=D
   refine ⟨e,V,W,X,?_⟩
   cases hblk:e.blk with
   | none=>rw[hblk]at H;exact absurd H.1 Os
   | some p =>
    obtain ⟨g,Y⟩:=p
    rw[hblk]at H
    obtain ⟨v,F⟩:=H
    have E:∀ (i:Nat) x (k:Nat) d,[cs.set j (.own nxt 0 0)][i]?=some x->x[k]?=some d->(i=0/\k=j/\d = .own nxt 0 0)\/(i=0/\cs[k]?=some d):=λi x k d t o=>by
     cases i with
     | succ i=>simp at t
     | zero =>
      simp only[WR,Wz]at t;subst t;by_cases K:k=j
      ·subst K;rw[WN (Qc0 S)]at o;injection o with o;exact .inl ⟨rfl,rfl,o.symm⟩
      ·rw[WK Oo]at o;exact .inr ⟨rfl,o⟩
    refine ⟨Qdo v rfl rfl rfl (λi x t=>?_) (λi x k d u t o O=>?_),F.conv rfl (λ_ r=>r) λi x k z' l t o=>?_⟩
    ·cases i with
     | succ i=>simp at t
     | zero =>
      simp only[WR,Wz]at t
      subst t
      rw[Ww]
      exact v.sz 0 cs rfl
    ·rcases E i x k d t o with ⟨rfl,rfl,rfl⟩ | ⟨rfl,o⟩
     ·obtain ⟨Z,y,J,w3⟩:=QaD v (i:=0) (x:=cs) rfl S
      rw[O]at y
      injection y with y
      subst y
      refine ⟨J,?_⟩
      have:Rep (⟨m.w,m.M,Z3 m.σ nxt (some ⟨z,none,true,noI⟩)⟩:Mem) u (.lit (.slice none 0 0)):=w3
      rw[this.lit_inv]
      exact .ownNil (Qh _ _ _) rfl
     ·obtain ⟨Z,y,J⟩:=QaD v (i:=0) (x:=cs) rfl o
      rw[O]at y
      injection y with y
      subst y
      exact J
    ·rcases E i x k _ t o with ⟨_,_,h⟩ | ⟨rfl,o⟩
     ·cases h
     ·exact ⟨cs,rfl,o⟩
  ·rw[if_neg B]at f
   by_cases A:s=nxt
   ·subst A
    rw[if_pos rfl]at f
    injection f with f
    subst f
    exact ⟨_,Qh _ _ _,rfl,rfl,rfl,hz⟩
   ·rw[if_neg A,if_neg B,if_neg A]at f
    exact QH.loc q.inv G (by simpa using A) (q.sto s ob f)
 ·dsimp only at f ⊢
  rw[Zi _ _ Oo]
  exact M s (by dsimp only;omega)
theorem wkE{n0:Nat}{d a:DSt}{b c:List Nat}(ρ:Ren)
  (f:CvE d.sto ρ d.env a.env b:=by repeat' (first | exact CvE.nil | apply CvE.cons | exact .lit | exact .own rfl | exact .sl | exact .nil | exact .ptr rfl | exact .ownE rfl (by first | omega | (simp;done) | (simp;omega)) | exact .frzM rfl (by first | omega | (simp;done) | (simp;omega)) | exact .dfzM rfl (λ_=>rfl) (λ_=>rfl) (by first | omega | (simp;done) | (simp;omega)) | exact .any | exact .pp | exact CvL.nil | apply CvL.cons | apply Cv.agg | apply Cv.tup | apply Cv.fn))
  (e:CvS d.sto ρ a.sto c:=by repeat' (first | exact CvS.nil | apply CvS.cons rfl rfl | exact .arr rfl | exact CvO.same (dpM λ_=>rfl) | apply CvO.rowAt (λ_=>rfl) | apply CvO.box | exact CvL.nil | apply CvL.cons | exact CvL.numbers _ | exact CvL.bools _ | exact .lit | exact .own rfl | exact .sl | exact .nil | exact .ptr rfl | exact .ownE rfl (by first | omega | (simp;done) | (simp;omega)) | exact .frzM rfl (by first | omega | (simp;done) | (simp;omega)) | exact .dfzM rfl (λ_=>rfl) (λ_=>rfl) (by first | omega | (simp;done) | (simp;omega)) | exact .any | exact .pp))
  (g:okR ρ (b++c) n0 a.nxt=true:=by rfl):ZB n0 d a:=WeakE.weak ⟨ρ,b,c,f,e,g⟩
theorem finE{f:Func}{n0:Nat}{r:DV}{d:Sto}{e:Exit}{c:DSt}{ds:List DV}{a b:List Nat}(ρ:Ren)(h:ResL P c f.results.toList ds)
  (j:Cv c.sto ρ (resV ds) r a:=by repeat' (first | exact .lit | exact .own rfl | exact .sl | exact .nil | exact .ptr rfl | exact .ownE rfl (by first | omega | (simp;done) | (simp;omega)) | exact .frzM rfl (by first | omega | (simp;done) | (simp;omega)) | exact .dfzM rfl (λ_=>rfl) (λ_=>rfl) (by first | omega | (simp;done) | (simp;omega)) | exact CvL.nil | apply CvL.cons | apply Cv.agg | apply Cv.tup | apply Cv.fn | exact .any | exact .pp))
  (i:CvS c.sto ρ d b:=by repeat' (first | exact CvS.nil | apply CvS.cons rfl rfl | exact .arr rfl | exact CvO.same (dpM λ_=>rfl) | apply CvO.rowAt (λ_=>rfl) | apply CvO.box | exact CvL.nil | apply CvL.cons | exact CvL.numbers _ | exact CvL.bools _ | exact .lit | exact .own rfl | exact .sl | exact .nil | exact .ptr rfl | exact .ownE rfl (by first | omega | (simp;done) | (simp;omega)) | exact .frzM rfl (by first | omega | (simp;done) | (simp;omega)) | exact .dfzM rfl (λ_=>rfl) (λ_=>rfl) (by first | omega | (simp;done) | (simp;omega)) | exact .any | exact .pp))
  (k:okR ρ (a++b) n0 (idb d n0)=true:=by rfl)(g:e = .normal\/e = .ret:=by first | exact .inr rfl | exact .inl rfl):RetD P f n0 r d e c:=⟨g,ds,ρ,a,b,h,j,i,k⟩
end
section
variable{P:Program}{env:Env}{sto:Sto}{nxt:Nat}{o:Oper}
theorem m_add{t:Nat}{x y:Operand}{a:Nat}{k:IntKind}{p q:Int}(d:o.op = .binOp .add t x y a:=by rfl)(c:opd env x = .lit (.int k p):=by rfl)(b:opd env y = .lit (.int k q):=by rfl):Qv P o env sto nxt ⟨.lit (.int k (k.wrap (p+q))),[],[],0⟩:=Qfr d c b rfl
theorem m_sub{t:Nat}{x y:Operand}{a:Nat}{k:IntKind}{p q:Int}(d:o.op = .binOp .sub t x y a:=by rfl)(c:opd env x = .lit (.int k p):=by rfl)(b:opd env y = .lit (.int k q):=by rfl):Qv P o env sto nxt ⟨.lit (.int k (k.wrap (p-q))),[],[],0⟩:=Qfr d c b rfl
theorem m_mul{t:Nat}{x y:Operand}{a:Nat}{k:IntKind}{p q:Int}(d:o.op = .binOp .mul t x y a:=by rfl)(c:opd env x = .lit (.int k p):=by rfl)(b:opd env y = .lit (.int k q):=by rfl):Qv P o env sto nxt ⟨.lit (.int k (k.wrap (p*q))),[],[],0⟩:=Qfr d c b rfl
theorem m_bits{a:BinOp}{t:Nat}{x y:Operand}{d:Nat}{k:IntKind}{p q:Int}(b:o.op = .binOp a t x y d:=by rfl)(e:opd env x = .lit (.int k p):=by rfl)(c:opd env y = .lit (.int k q):=by rfl)(h:a = .and\/a = .or\/a = .xor\/a = .andNot:=by first | exact .inl rfl | exact .inr (.inl rfl) | exact .inr (.inr (.inl rfl)) | exact .inr (.inr (.inr rfl))):Qv P o env sto nxt ⟨.lit (.int k (bits a k p q)),[],[],0⟩:=Qfr b e c (QcO.bitsE h rfl).ok
theorem m_lss{t:Nat}{x y:Operand}{a:Nat}{k:IntKind}{p q:Int}(d:o.op = .binOp .lss t x y a:=by rfl)(c:opd env x = .lit (.int k p):=by rfl)(b:opd env y = .lit (.int k q):=by rfl):Qv P o env sto nxt ⟨.lit (.bool (decide (p<q))),[],[],0⟩:=Qfr d c b QcO.lt.ok
theorem m_leq{t:Nat}{x y:Operand}{a:Nat}{k:IntKind}{p q:Int}(d:o.op = .binOp .leq t x y a:=by rfl)(c:opd env x = .lit (.int k p):=by rfl)(b:opd env y = .lit (.int k q):=by rfl):Qv P o env sto nxt ⟨.lit (.bool (decide (p<=q))),[],[],0⟩:=Qfr d c b QcO.le.ok
theorem m_gtr{t:Nat}{x y:Operand}{a:Nat}{k:IntKind}{p q:Int}(d:o.op = .binOp .gtr t x y a:=by rfl)(c:opd env x = .lit (.int k p):=by rfl)(b:opd env y = .lit (.int k q):=by rfl):Qv P o env sto nxt ⟨.lit (.bool (decide (q<p))),[],[],0⟩:=Qfr d c b QcO.gt.ok
theorem m_geq{t:Nat}{x y:Operand}{a:Nat}{k:IntKind}{p q:Int}(d:o.op = .binOp .geq t x y a:=by rfl)(c:opd env x = .lit (.int k p):=by rfl)(b:opd env y = .lit (.int k q):=by rfl):Qv P o env sto nxt ⟨.lit (.bool (decide (q<=p))),[],[],0⟩:=Qfr d c b QcO.ge.ok
theorem m_eql{t:Nat}{x y:Operand}{a:Nat}{k:IntKind}{p q:Int}(d:o.op = .binOp .eql t x y a:=by rfl)(c:opd env x = .lit (.int k p):=by rfl)(b:opd env y = .lit (.int k q):=by rfl):Qv P o env sto nxt ⟨.lit (.bool (decide (p=q))),[],[],0⟩:=Qfr d c b QcO.eq.ok
theorem m_neq{t:Nat}{x y:Operand}{a:Nat}{k:IntKind}{p q:Int}(d:o.op = .binOp .neq t x y a:=by rfl)(c:opd env x = .lit (.int k p):=by rfl)(b:opd env y = .lit (.int k q):=by rfl):Qv P o env sto nxt ⟨.lit (.bool (!decide (p=q))),[],[],0⟩:=Qfr d c b QcO.ne.ok
theorem m_shlE{t:Nat}{x y:Operand}{c:Nat}{k j:IntKind}{p q:Int}(h:0<=q)(a:o.op = .binOp .shl t x y c:=by rfl)(d:opd env x = .lit (.int k p):=by rfl)(b:opd env y = .lit (.int j q):=by rfl):Qv P o env sto nxt ⟨.lit (.int k (Qbv k p q)),[],[],0⟩:=m_shl h a d b
theorem m_shrE{t:Nat}{x y:Operand}{c:Nat}{k j:IntKind}{p q:Int}(h:0<=q)(a:o.op = .binOp .shr t x y c:=by rfl)(d:opd env x = .lit (.int k p):=by rfl)(b:opd env y = .lit (.int j q):=by rfl):Qv P o env sto nxt ⟨.lit (.int k (QbV k p q)),[],[],0⟩:=m_shr h a d b
theorem m_xorE{t:Nat}{x:Operand}{k:IntKind}{p:Int}(b:o.op = .unOp .xor t x:=by rfl)(a:opd env x = .lit (.int k p):=by rfl):Qv P o env sto nxt ⟨.lit (.int k (xorN k p)),[],[],0⟩:=m_xor b a
theorem JG{c:Operand}{a:Array Operand}{l:List Operand}{s:Array TypeId}{f:Nat}{cap ds:List DV}{S:Sto}{r:DV}{e:Sto}{b d:List Nat}(ρ:Ren)(q:DCall P f ds S r e)(p:scB r=true)(g:ScS e)(k:o.op = .call ⟨.value c,a,s⟩:=by rfl)(m:a=l.toArray:=by rfl)(j:QbU env c f cap:=by first | exact .func | exact .tmp rfl | exact .clo rfl)
  (t:CvL sto ρ (l.map (opd env)++cap) ds b:=by repeat' (first | exact CvL.nil | apply CvL.cons | exact .lit | exact .own rfl | exact .sl | exact .nil | exact .ptr rfl | exact .ownE rfl (by first | omega | (simp;done) | (simp;omega)) | exact .frzM rfl (by first | omega | (simp;done) | (simp;omega)) | exact .dfzM rfl (λ_=>rfl) (λ_=>rfl) (by first | omega | (simp;done) | (simp;omega)) | exact .any | exact .pp | apply Cv.agg | apply Cv.tup | apply Cv.fn))
  (n:CvS sto ρ S d:=by repeat' (first | exact CvS.nil | apply CvS.cons rfl rfl | exact .arr rfl | exact CvO.same (dpM λ_=>rfl) | apply CvO.rowAt (λ_=>rfl) | apply CvO.box | exact CvL.nil | apply CvL.cons | exact CvL.numbers _ | exact CvL.bools _ | exact .lit | exact .own rfl | exact .sl | exact .nil | exact .ptr rfl | exact .ownE rfl (by first | omega | (simp;done) | (simp;omega)) | exact .frzM rfl (by first | omega | (simp;done) | (simp;omega)) | exact .dfzM rfl (λ_=>rfl) (λ_=>rfl) (by first | omega | (simp;done) | (simp;omega))))
  (i:okC ρ (b++d) S.length=true:=by rfl)(h:QgF sto ρ=true:=by rfl):Qv P o env sto nxt ⟨ren (phi ρ S.length nxt) r,Qa4 ρ S.length nxt e,ρ.map (·.2)++(b++d),idb e S.length-S.length⟩:=by have:=r_callB (P:=P) (nxt:=nxt) k m j q (scB_ok p) g t n i h;simpa [outOf] using this
theorem m_cG{c:Operand}{d:Array Operand}{l:List Operand}{p:Array TypeId}{f:Nat}{cap ds:List DV}{S:Sto}{r:DV}{g:Sto}{a b:List Nat}(ρ:Ren)(n:DCall P f ds S r g)(j:o.op = .call ⟨.value c,d,p⟩:=by rfl)(k:d=l.toArray:=by rfl)(i:QbU env c f cap:=by first | exact .func | exact .tmp rfl | exact .clo rfl)
  (q:CvL sto ρ (l.map (opd env)++cap) ds a:=by repeat' (first | exact CvL.nil | apply CvL.cons | exact .lit | exact .own rfl | exact .sl | exact .nil | exact .ptr rfl | exact .ownE rfl (by first | omega | (simp;done) | (simp;omega)) | exact .frzM rfl (by first | omega | (simp;done) | (simp;omega)) | exact .dfzM rfl (λ_=>rfl) (λ_=>rfl) (by first | omega | (simp;done) | (simp;omega)) | exact .any | exact .pp | apply Cv.agg | apply Cv.tup | apply Cv.fn))
  (m:CvS sto ρ S b:=by repeat' (first | exact CvS.nil | apply CvS.cons rfl rfl | exact .arr rfl | exact CvO.same (dpM λ_=>rfl) | apply CvO.rowAt (λ_=>rfl) | apply CvO.box | exact CvL.nil | apply CvL.cons | exact CvL.numbers _ | exact CvL.bools _ | exact .lit | exact .own rfl | exact .sl | exact .nil | exact .ptr rfl | exact .ownE rfl (by first | omega | (simp;done) | (simp;omega)) | exact .frzM rfl (by first | omega | (simp;done) | (simp;omega)) | exact .dfzM rfl (λ_=>rfl) (λ_=>rfl) (by first | omega | (simp;done) | (simp;omega))))
  (h:okC ρ (a++b) S.length=true:=by rfl)(e:QgF sto ρ=true:=by rfl):Qv P o env sto nxt ⟨ren (phi ρ S.length nxt) r,Qa4 ρ S.length nxt g++QdP sto (a++b),ρ.map (·.2)++(a++b),idb g S.length-S.length⟩:=r_callF j k i n q m h e
theorem DCall.conv{f:FuncId}{ds:List DV}{S:Sto}{r r':DV}{g b:Sto}{a c:List Nat}(h:DCall P f ds S r g)(ρ:Ren)(G:Cv g ρ r r' a)(F:CvS g ρ b c)(H:okR ρ (a++c) S.length (idb b S.length)=true):DCall P f ds S r' b:=⟨h.1,λw M σ u x y k z=>by
 refine Calls.mono (h.2 w M σ u x y k z) λe K ⟨v,L,A,B,C,D,E,N⟩=>?_
 obtain ⟨l,i,j,m,n,o,p,q⟩:=weak_mem (n0:=S.length) (σ0:=σ) B E H F (λs d=>Wj _ d) C k
 obtain ⟨I,J,t⟩:=l
 dsimp only at i j
 subst i
 subst j
 have:=n _ _ a _ G (λs d=>Wg _ d) D
 exact ⟨v,t,A,m,p,this,o,q⟩⟩
end
open Go.RowKit Go.ChangeShapes Go.WideShapes Go.Deep
abbrev mem0(w:World):Mem:=⟨w,λ_=>False,λ_=>none⟩
theorem mem0_no(w:World)(k:Nat):¬ (mem0 w).no k:=λh=>by
 rcases h with h | ⟨s,e,h,_⟩
 ·exact h
 ·cases h
theorem Reps.nil'{m:Mem}:Reps m [] []:=⟨rfl,λi v d h=>by simp at h⟩
theorem Reps.cons'{m:Mem}{v:Value}{d:DV}{vs:List Value}{ds:List DV}(h:Rep m v d)(c:Reps m vs ds):Reps m (v :: vs) (d :: ds):=⟨by rw[W3,W3,c.1],λi u e a b=>by
 cases i with
 | zero =>
  simp only[WR,Wz]at a b
  subst a
  subst b
  exact h
 | succ i=>exact c.2 i u e (by simpa using a) (by simpa using b)⟩
def TabW(w:World):Prop:=TabF ⟨w,Xof (λ_=>none),Yof (λ_=>none)⟩ (λ_=>False)
theorem DCall.walk{P:Program}{f:FuncId}{ds:List DV}(h:DCall P f ds [] (DB true) []){w:World}{vs:List Value}(n:Reps (mem0 w) vs ds)(b:TabW w:=by first | exact TabF.none rfl | assumption):Calls P f vs.toArray w λe w'=>e = .returned (.bool true)/\Below w.heap.size w w':=by
 have d:∀ k,¬ Xof (λ_=>none) k:=λk ⟨s,e,h,_⟩=>by cases h
 have i:Inv ⟨w,Xof (λ_=>none),Yof (λ_=>none)⟩ (mem0 w):=⟨rfl,rfl,rfl,Wl _,λ_ _ _=>rfl,λs o e p g h=>(by cases h),λs e g h=>(by cases h),λk h=>False.elim h,λs e g c h=>(by cases h),b⟩;refine Calls.mono (h.2 w (λ_=>False) (λ_=>none) vs i (λs q h=>by cases h) (λ_ _=>rfl) n) λe w' ⟨v,r,j,a,t,l,u,x⟩=>?_;subst j;rw[l.lit_inv];exact ⟨rfl,a.os,a.tape,a.output,a.size,λk m=>a.old k m (d k)⟩
def CRd(w:World)(cs:List Value)(ds:List DV):Prop:=cs.length=ds.length/\∀ (i:Nat) v d,cs[i]?=some v->ds[i]?=some d->PRep w (mem0 w).no v d
theorem CRd.one{w:World}{v:Value}{d:DV}(h:PRep w (mem0 w).no v d):CRd w [v] [d]:=⟨rfl,λi u e a b=>by
 cases i with
 | zero =>
  simp only[WR,Wz]at a b
  subst a
  subst b
  exact h
 | succ i=>simp at a⟩
theorem CRd.get{w:World}{v:Value}{d:DV}(h:CRd w [v] [d]):PRep w (mem0 w).no v d:=h.2 0 v d rfl rfl
theorem CRd.append{w:World}{cs a:List Value}{ds b:List DV}(h:CRd w cs ds)(g:CRd w a b):CRd w (cs++a) (ds++b):=by
 refine ⟨by rw[We,We,h.1,g.1],λi v d c e=>?_⟩;by_cases f:i<cs.length
 ·rw[WF f]at c;rw[WF (by rw[<- h.1];exact f)]at e;exact h.2 i v d c e
 ·rw[WC Oo]at c;rw[WC (by rw[<- h.1];omega),<- h.1]at e;exact g.2 _ v d c e
section
variable{P:Program}
def OpD{α:Type}(P:Program)(t:TypeId)(c:α->List DV)(b:α->Prop):Prop := ∀ (H:Type) (enc:TypeId×Value->H) (w:World) (base:Nat) (spare:Nat->Bool) (held:Bool) (fuel:Nat) (cs:List Value) (x:DataW H×List MemPlace), DataW.trod enc P w base spare held fuel t cs=some x->∃ a,CRd w cs (c a)/\b a
theorem OpD.i64{t:TypeId}(g:P.underlying t=some (.int .i64)):OpD P t iC I64:=by intro H f w b a c d i x h;obtain ⟨n,rfl,_,e⟩:=DataW.trod_int g h;refine ⟨n,CRd.one (.lit _ rfl),?_⟩;simp[Lit.wf,IntKind.min,IntKind.max,IntKind.bits,IntKind.signed]at e;unfold I64;omega
theorem OpD.u64{t:TypeId}(g:P.underlying t=some (.int .u64)):OpD P t uC U64:=by intro H f w b a c d i x h;obtain ⟨n,rfl,_,e⟩:=DataW.trod_int g h;refine ⟨n,CRd.one (.lit _ rfl),?_⟩;simp[Lit.wf,IntKind.min,IntKind.max,IntKind.bits,IntKind.signed]at e;unfold U64;omega
theorem OpD.bool{t:TypeId}(f:P.underlying t=some .bool):OpD P t bC λ_=>True:=by intro H e w b a c d g x h;obtain ⟨n,rfl,_⟩:=DataW.trod_bool f h;exact ⟨n,CRd.one (.lit _ rfl),trivial⟩
theorem Qfl{α:Type}{n:Nat}{p:Nat->α->Prop}(h:∀ i,i<n->∃ a,p i a):∃ l:List α,l.length=n/\∀ i (c:i<l.length),p i l[i]:=by
 induction n with
 | zero=>exact ⟨[],rfl,λi c=>absurd c (WT _)⟩
 | succ n ih =>
  obtain ⟨l,d,e⟩:=ih λi c=>h i Oo;obtain ⟨a,f⟩:=h n Oo;refine ⟨l++[a],by simp[d],λi c=>?_⟩;by_cases b:i<l.length
  ·rw[YK b];exact e i b
  ·have:i=n:=by simp at c;omega
   subst this;rw[U6 Oo];simpa using f
theorem OpD.slice{α:Type}{c:α->List DV}{ok:α->Prop}{t e sz:Nat}(ht:P.underlying t=some (.slice e))(hc:P.cellsOf e=sz)(hp:0<sz)(N:∀ a,(c a).length=sz)(h:OpD P e c ok):OpD P t (lC c) λxs=>(∀ x∈xs,ok x)/\xs.length<=9223372036854775807:=by
 intro H ab w L G M ad cs x o;rcases open_slice ht o with ⟨rfl,_⟩ | ⟨a,F,X,m,n,D,Pl,rfl,hb,hl,Y,Z,_,aa⟩
 ·exact ⟨[],CRd.one (.nil none 0 (WO _)),(λx o=>by cases o),Os⟩
 ·have ae:F<=m:=by rw[Z];split <;> omega
  obtain ⟨l,S,C⟩:=Qfl (n:=F) (p:=λi y=>ok y/\∃ f,CRd w f (c y)/\∀ j,j<sz->w.cell? (a.add (i*sz+j))=f[j]?) λi z=>by obtain ⟨f,h1,h2⟩:=aa i Oo;obtain ⟨y,hy,T⟩:=h H ab w L G M n f _ h2;rw[hc]at h1;obtain ⟨_,ac,E⟩:=World.cells?_some h1;refine ⟨y,T,f,hy,λj hj=>?_⟩;have:=E j Oo;rw[add_add]at this;rw[this]
  refine ⟨l,CRd.one ?_,λx o=>?_,by unfold maxLen at Y;omega⟩
  ·by_cases h0:F=0
   ·have:l=[]:=VA.1 Oo;subst this;subst h0;exact .nil _ _ Y
   ·obtain ⟨b,r,J⟩:=a;obtain ⟨_,U,V,K⟩:=C 0 Oo;have af:U.length=sz:=by rw[V.1,N]
    have q:=K 0 hp;rw[Wa Oo]at q;have A:J=none:=by have:=World.cell?_spot q;simpa [Addr.add] using this
    subst A;have v:∀ k,(⟨b,r,none⟩:Addr).add k=⟨b,r+k,none⟩:=λk=>add_lit;rw[v]at q;have O:=World.block_lt_of_cell? w (a:=_) (u:=_) q;have hf:∀ i,∃ g:Nat->Value,i<l.length->∀ j d,((l.map c)[i]?).bind (·[j]?)=some d->w.cell? ⟨b,r+i*sz+j,none⟩=some (g j)/\PRep w (mem0 w).no (g j) d:=λi=>by
     by_cases z:i<l.length
     ·obtain ⟨_,f,hr,W⟩:=C i z;refine ⟨λj=>f.getD j undef,λ_ j d s=>?_⟩;rw[Wh,Wa z]at s;simp only[Wx,WB]at s;have hj:j<sz:=by
       rw[<- N l[i]];rcases Ws j (c l[i]).length with h' | h'
       ·exact h'
       ·rw[Wi h']at s;cases s
      have ag:f.length=sz:=by rw[hr.1,N]
      have I:=W j hj;rw[Wa Oo,v]at I;have Q:f.getD j undef=f[j]' Oo:=by simp[List.getD,show j<f.length by omega]
      dsimp only;rw[Q,Vg];exact ⟨I,hr.2 j _ d (Wa Oo) s⟩
     ·exact ⟨λ_=>undef,λh=>absurd h z⟩
    have R:=Classical.axiomOfChoice hf;obtain ⟨g,hg⟩:=R;have B:∀ (i:Nat) (x:List DV),(l.map c)[i]?=some x->i<l.length:=λi x o=>by
     rcases Ws i l.length with h' | h'
     ·exact h'
     ·rw[Wi (by simpa using h')]at o;cases o
    have:=PRep.sl (w:=w) (no:=(mem0 w).no) b r X sz (l.map c) g hp (by rw[Wb];omega) (by rw[Wb];omega) Y (mem0_no w b) O (λi x o=>by
     have z:=B i x o
     rw[Wh,Wa z]at o
     simp only[Wx,Wz]at o
     rw[<- o,N]) (λi x j d o s=>(hg i (B i x o) j d (by rw[o];exact s)).1) (λi x j d o s=>(hg i (B i x o) j d (by rw[o];exact s)).2)
    rw[Wb,S]at this;exact this
  ·obtain ⟨i,z,rfl⟩:=Us o;exact (C i z).1
inductive FOpD(P:Program):{α:Type}->List Field->Nat->(α->List DV)->Nat->(α->Prop)->Prop
 | nil {off:Nat}:FOpD P [] off (λ_:Unit=>[]) 0 λ_=>True
 | cons {α β:Type} {f:Field} {fs:List Field} {off z z':Nat} {c:α->List DV} {c':β->List DV} {ok:α->Prop} {okF:β->Prop} (ho:f.offset=off) (hc:P.cellsOf f.type=z) (h:OpD P f.type c ok) (hs:FOpD P fs (off+z) c' z' okF) :
   FOpD P (f :: fs) off (λp:α×β=>c p.1++c' p.2) (z+z') λp=>ok p.1/\okF p.2
theorem fields_openD{α:Type}{fs:List Field}{off z:Nat}{c:α->List DV}{p:α->Prop}(x:FOpD P fs off c z p) :
  ∀ (H:Type) (enc:TypeId×Value->H) (w:World) (j:Nat) (e:Nat->Bool) (k:Bool) (n:Nat) (cs:List Value),cs.length=off+z ->
   (∀ (i:Nat) (f:Field),fs[i]?=some f->∃ y,DataW.trod enc P w j e k n f.type ((cs.drop f.offset).take (P.cellsOf f.type))=some y)->∃ a,CRd w (cs.drop off) (c a)/\p a:=by
 induction x with
 | nil =>intro H enc w j e k n cs t _;rw[Vx Oo];exact ⟨(),⟨rfl,λi v d h=>by simp at h⟩,trivial⟩
 | @cons α β f fs off z z' c c' p okF ho hc h hs ih =>intro H enc w j e k n cs t o;obtain ⟨y,r⟩:=o 0 f rfl;obtain ⟨a,q,l⟩:=h H enc w j e k n _ _ r;obtain ⟨b,s,m⟩:=ih H enc w j e k n cs Oo λi g u=>o (i+1) g (by simpa using u);rw[ho,hc]at q;refine ⟨(a,b),?_,l,m⟩;have:=q.append s;rw[<- UO,Vn]at this;exact this
theorem OpD.struct{α:Type}{c:α->List DV}{r:α->Prop}{t z:Nat}{fs:Array Field}(B:P.underlying t=some (.struct fs))(y:P.cellsOf t=z)(A:FOpD P fs.toList 0 c z r):OpD P t c r:=by
 intro H p w e b g q u x h;obtain ⟨xs,n,_,_,k,l,m⟩:=DataW.trod_struct B h;obtain ⟨a,s,o⟩:=fields_openD A H p w e b g n u (by rw[k,y];omega) λi f v=>by
  have d:fs[i]?=some f:=by simpa using v
  have:=m i f d;have j:i<xs.length:=by rw[l];exact (VL.1 d).1
  exact ⟨xs[i],by rw[this,Wa j]⟩
 exact ⟨a,by simpa using s,o⟩
theorem OpD.map{α β:Type}{c:α->List DV}{m:β->List DV}{l:α->Prop}{i:β->Prop}{t:TypeId}(h:OpD P t c l)(g:α->β)(r:∀ a,m (g a)=c a)(k:∀ a,l a->i (g a)):OpD P t m i:=by intro H j w d b e f p x q;obtain ⟨a,n,o⟩:=h H j w d b e f p x q;exact ⟨g a,by rw[r];exact n,k a o⟩
theorem OpD.arg{α:Type}{t:TypeId}{c:α->List DV}{i:α->Prop}(h:OpD P t c i){H:Type}{enc:TypeId×Value->H}{w:World}{e:Nat}{b:Nat->Bool}{f:Bool}{v:Value}{d:DataW H}{ps:List MemPlace}
  (k:DataW.Trod enc P w e b f t v d ps):∃ a,CRd w v.cells.toList (c a)/\i a:=by obtain ⟨g,j⟩:=k;exact h H enc w e b f g _ _ j
end
theorem CRd.agg{w:World}{cs:Array Value}{ds:List DV}(h:CRd w (Value.agg cs).cells.toList ds):Rep (mem0 w) (.agg cs) (.agg ds):=by have:=Rep.agg (m:=mem0 w) (vs:=cs.toList) (xs:=ds) h.1 λi v d a b=>.pure (h.2 i v d a b);simpa using this
theorem CRd.slc{w:World}{a:Option Addr}{l c:Nat}{d:DV}(h:CRd w (Value.slice a l c).cells.toList [d]):Rep (mem0 w) (.slice a l c) d:=.pure (CRd.get (by simpa [Value.cells] using h))
open Go.ChangeShapes Go.WideShapes Go.RowKit
def laidT:List (String×DataW Unit):=[("math/bits.deBruijn64tab",Rows.laid_math_bits_deBruijn64tab)]
theorem laid_tab:laidT=[("math/bits.deBruijn64tab",.agg (tabL.map λx=>.lit (.int .u8 x)))]:=rfl
theorem tabW_of{W:World}(h:laidMetH Tryz.prog laidT W):TabW W:=by
 rw[MakeChecks.laidMetH_plain _ _ _ Ok,laid_tab]at h;obtain ⟨Q,⟨g,t,n,B,p,q,C,K,L,M,_,rfl⟩,_,w⟩:=h;obtain rfl:=VC ((show Tryz.prog.globalNamed "math/bits.deBruijn64tab"=some 0 by kernel_rfl).symm.trans C);obtain rfl:=VC ((show (Tryz.prog.globals[0]?).map (·.type)=some 163 by kernel_rfl).symm.trans K);have E:Tryz.prog.underlying 163=some (.array 64 5):=by kernel_rfl
 have F:Tryz.prog.underlying 5=some (.int .u8):=by kernel_rfl
 have G:Tryz.prog.cellsOf 5=1:=by kernel_rfl
 have H:Tryz.prog.cellsOf 163=64:=by kernel_rfl
 obtain ⟨xs,m,_,N,j,R,A⟩:=DataW.trod_array E M;rw[H]at j;have I:tabL.map (λx=>(.lit (.int .u8 x):DataW Unit))=xs.map (·.1):=DataW.agg.inj (Prod.mk.inj N).1;have d:∀ (i:Nat) x,tabL[i]?=some x->n.toList[i]?=some (.int .u8 x):=λi x o=>by
  obtain ⟨r,_⟩:=Wo.1 o;have r:i<64:=r;have k:=A i r;rw[G,YG]at k;cases hxs:xs[i]? with
  | none=>rw[Uf]at hxs;omega
  | some y =>
   rw[hxs]at k;obtain ⟨z,a,b,_⟩:=DataW.trod_int F k;have u:=congrArg (λl=>l[i]?) I;simp only[Wh,o,hxs,Wx,Wz]at u;rw[b]at u;have J:x=z:=by have:=DataW.lit.inj u;injection this
   subst J;have f:i<n.toList.length:=by omega
   rw[Vi f]at a;simp only[List.take_succ_cons,Y3,Yu,and_true]at a;rw[Wa f,a]
 have v:MemPlace.cell 0 0∈MemPlace.row ⟨0,0,none⟩ n.size++p++q:=by
  have:0<n.size:=by rw[<- Wt];omega
  refine Wg _ (Wg _ ?_);unfold MemPlace.row;exact Wm.2 ⟨0,WE.2 this,rfl⟩
 obtain ⟨⟨c,T,D⟩,_⟩:=w 0 0 v;intro k l e;have e:some (0,tabL)=some (k,l):=e;injection e with e;injection e with O P;subst O;subst P;refine ⟨?_,λ⟨s,e,h,_⟩=>(by cases h),λ⟨s,e,h,_⟩=>(by cases h),id,λi x o=>?_⟩
 ·show 0<W.heap.size;rcases V5 W.heap.size with h0 | h0
  ·rw[Ut Oo]at D;cases D
  ·exact h0
 ·show W.cell? ⟨0,i,none⟩=_;rw[World.var?_cell C L i];have:=d i x o;rw[UA]at this;exact this
section
variable{α β ρ σ:Type}
theorem loop_inv{f:σ->Option (LS σ β)}(I:σ->Prop)(Q:β->Prop)(μ:σ->Nat)
  (h:∀ s,I s->(∃ s',f s=some (.go s')/\I s'/\μ s' < μ s)\/(∃ b,f s=some (.out b)/\Q b)):∀ (n:Nat) (s:σ),μ s=n->I s->∃ b,Qf f s=some b/\Q b:=by
 intro n;induction n using Nat.strongRecOn with
 | _ n ih =>
  intro s j g;rcases h s g with ⟨s',a,c,i⟩ | ⟨b,a,c⟩
  ·obtain ⟨b,d,e⟩:=ih (μ s') Oo s' rfl c;exact ⟨b,(Qf4 a).trans d,e⟩
  ·exact ⟨b,QcY a,c⟩
theorem QeQ{f:σ->Option (LS σ β)}{s:σ}(I:σ->Prop)(Q:β->Prop)(μ:σ->Nat)(a:I s)
  (h:∀ s,I s->(∃ s',f s=some (.go s')/\I s'/\μ s' < μ s)\/(∃ b,f s=some (.out b)/\Q b)):∃ b,Qf f s=some b/\Q b:=loop_inv I Q μ h _ s rfl a
theorem loop_to{f:σ->Option (LS σ β)}{s:σ}{b:β}(I:σ->Prop)(μ:σ->Nat)(a:I s)
  (h:∀ s,I s->(∃ s',f s=some (.go s')/\I s'/\μ s' < μ s)\/f s=some (.out b)):Qf f s=some b:=by obtain ⟨c,d,rfl⟩:=QeQ I (λc=>c=b) μ a λs a=>(h s a).imp id λe=>⟨b,e,rfl⟩;exact d
theorem QdU{x:Option α}{a:α}{K:α->Option β}{r:β}(h:x=some a)(k:K a=some r):x.bind K=some r:=by rw[h];exact k
theorem bndR_eq{x:Option (β ⊕ ρ)}{b:β}{K:β->Option ρ}(h:x=some (.inl b)):bndR x K=K b:=by rw[h];rfl
theorem bndR_eqR{x:Option (β ⊕ ρ)}{r:ρ}{K:β->Option ρ}(h:x=some (.inr r)):bndR x K=some r:=by rw[h];rfl
theorem Qg0{l:List α}{i:Nat}(h:i<l.length):at_ l (i:Int)=some l[i]:=by unfold at_;rw[if_pos Oo,Wd,Wa h]
theorem at_int{l:List α}{i:Int}(a:0<=i)(h:i.toNat<l.length):at_ l i=some l[i.toNat]:=by unfold at_;rw[if_pos a,Wa h]
theorem at_ex{l:List α}{i:Int}(a:0<=i)(h:i<l.length):∃ v,at_ l i=some v/\v∈l:=⟨l[i.toNat]' Oo,at_int a Oo,Wc _⟩
end
theorem Qb{n:Int}(h:-9223372036854775808<=n/\n<=9223372036854775807):w64 n=n:=QbY h
theorem Xg{n:Int}(h:0<=n/\n<=18446744073709551615):wu n=n:=Qba h
theorem shl_pow{p:Int}{e:Nat}(a:e<=64)(h:-9223372036854775808<=p*2^e/\p*2^e<=9223372036854775807):Qbv .i64 p (e:Int)=p*2^e:=by unfold Qbv;rw[Wd,W5 (show e<=IntKind.i64.bits from a)];exact Qb h
section
variable{sto:Sto}
theorem pu_nil:QbN sto []=some ([],[]):=rfl
theorem pu_lit{v:Value}{l b:List DV}{u:List Nat}(h:QbN sto l=some (b,u)):QbN sto (.lit v :: l)=some (.lit v :: b,u):=by unfold QbN;rw[h];rfl
theorem pu_own{α:Type}{c:α->List DV}{ys:List α}{s z:Nat}{f:Bool}{l b:List DV}{u:List Nat}(a:sto.get s=some ⟨z,true,f,ys.map c⟩)(h:QbN sto l=some (b,u)):QbN sto (.own s 0 ys.length :: l)=some (.sl (ys.map c) :: b,s :: u):=by
 have e:pure1 sto (.own s 0 ys.length)=some (.sl (ys.map c),[s]):=by unfold pure1;simp only[a];rw[if_pos ⟨trivial,Os⟩,UN,WD Os]
 unfold QbN;rw[e,h];rfl
end
def nz:DV->DV
 | .lit (.slice none 0 0)=>.sl []
 | d=>d
theorem Qv.post{P:Program}{o:Oper}{env:Env}{sto:Sto}{nxt:Nat}{d:DV}{us b:List (Nat×Option Ob)}{e:List Nat}{n:Nat}(h:Qv P o env sto nxt ⟨d,us,e,n⟩)(t:b.map (·.1)=us.map (·.1))(u:∀ m,(∀ p∈us,Upd m p)->∀ p∈b,Upd m p):Qv P o env sto nxt ⟨d,b,e,n⟩ :=
 λF m a f g i j K Q k=>h F m a f g i j K Q λv c l q r s=>k v c l (by dsimp only;rw[t];exact q) r (u c s)
section
variable{P:Program}{o:Oper}{env:Env}{sto:Sto}{nxt:Nat}
theorem m_litP{α:Type}{c:α->List DV}(xs:List α){t e len:Nat}{parts:Array (Nat×Operand)}{l:List (Nat×Operand)}{g d:TyD}{b a:List DV}{r us:List Nat}(x:QB P t g)(s:QB P e d)(q:o.op = .buildSlice t len parts)(j:parts=l.toArray)(m:g.k = .slice e)
  (y:d.zero.length=d.size)(w:0<d.size)(v:0<len)(n:len*d.size<=16777216)
  (h:QdQ sto (λi=>some (i*d.size,d.size)) (QdJ d len) (l.map λp=>(p.1,opd env p.2))=some (b,r))(f:QbN sto b=some (a,us))(k:QbD len d.size a=xs.map c)(u:len=xs.length) :
  Qv P o env sto nxt ⟨.own nxt 0 xs.length,(nxt,some ⟨d.size,true,false,xs.map c⟩) :: QdP sto us,r++us,1⟩:=Qj xs x s q j m y w v n h f k u
theorem bnd_ex{b:Option Operand}{a d:Int}{n:Nat}(f:d=(n:Int))(h:0<=a)(g:(b=none/\a=d)\/∃ y k,b=some y/\opd env y = .lit (.int k a)):∃ l,Bnd env b l/\l.getD n=a.toNat:=by
 have c:=Vl h;rcases g with ⟨rfl,rfl⟩ | ⟨y,k,rfl,e⟩
 ·exact ⟨none,.none,by simp[f]⟩
 ·exact ⟨some a.toNat,.some (k:=k) (by rw[c];exact e),rfl⟩
theorem Qft{α:Type}{c:α->List DV}{xs:List α}{a b:Int}{t e s len:Nat}{f:Bool}{x:Operand}{j m:Option Operand}{q p:TyD}(h:0<=a/\a<=b/\b<=xs.length/\(a=0\/a<b))(E:QB P t q)(C:QB P e p)
  (B:(j=none/\a=0)\/∃ y k,j=some y/\opd env y = .lit (.int k a))(D:(m=none/\b=xs.length)\/∃ y k,m=some y/\opd env y = .lit (.int k b))
  (A:o.op = .slice t x j m none)(z:q.k = .slice e)(G:opd env x = .own s 0 len)(F:sto.get s=some ⟨p.size,true,f,xs.map c⟩)(d:xs.length=len) :
  Qv P o env sto nxt ⟨.own s a.toNat (b.toNat-a.toNat),[],[s],0⟩:=by obtain ⟨r,H,I,J⟩:=h;subst d;obtain ⟨l,v,i⟩:=bnd_ex (n:=0) rfl r B;obtain ⟨u,w,g⟩:=bnd_ex (n:=xs.length) rfl (show 0<=b by omega) D;have:=r_slO (P:=P) (sto:=sto) (nxt:=nxt) A E z C G F v w rfl (by rw[i,g];omega) (by rw[g];omega) (by rw[i,g];omega);rw[i,g,W0]at this;exact this
theorem r_slN{t e:Nat}{x:Operand}{C D:Option Operand}{B l:TyD}{s off len:Nat}{c:Ob}(f:o.op = .slice t x C D none)(A:QB P t B)(y:B.k = .slice e)(z:QB P e l)(d:opd env x = .own s off len)(I:sto.get s=some c)(G:Bnd env C (some len))(H:Bnd env D none)
  (N:c.esz=l.size):Qv P o env sto nxt ⟨.sl [],[],[s],0⟩:=.ran λF m a w j k _=>by
 have n:=j x (by simp[f,Op.operands])
 rw[d]at n
 have p:=Qe1 (m:=m) (a:=a) G λx d=>j x (by simp[f,Op.operands,d])
 have q:=Qe1 (m:=m) (a:=a) H λx d=>j x (by simp[f,Op.operands,d])
 obtain ⟨J,K,L,M,h⟩:=Jm n (k s Os c I)
 rcases h with ⟨g,cap,h,i,E,u⟩ | ⟨h,i,rfl,rfl,E,u⟩
 ·have b:=QcV A y z (ad:=some ⟨g,off*c.esz,none⟩) (XM (P:=P) (len:=len) (cap:=cap-off) p q (Wl _) (Wl _) Oo true m.w)
  have r:=u.max
  simp only[WG,YN]at b
  refine Ran.val w (v:=.slice (if cap-off=len then some ⟨g,off*c.esz,none⟩ else some ⟨g,off*c.esz+len*l.size,none⟩) (len-len) (cap-off-len)) (by simp[execOp,f,i,b,add_lit]) ?_
  rw[V1]
  exact .pure (.nil _ _ (by unfold maxLen at *;omega))
 ·have b:=QcV A y z (ad:=none) (XM (P:=P) (len:=0) (cap:=0) p q (Wl _) (Wl _) (Wl _) true m.w)
  refine Ran.val w (v:=.slice none 0 0) (by simp[execOp,f,i,b]) ?_
  exact .pure (.nil _ _ (by unfold maxLen;omega))
theorem m_slN{α:Type}{c:α->List DV}{xs:List α}{a:Int}{t e s len:Nat}{f:Bool}{x:Operand}{g:Option Operand}{i d:TyD}(h:a=xs.length)(q:QB P t i)(p:QB P e d)
  (n:∃ y k,g=some y/\opd env y = .lit (.int k a))
  (m:o.op = .slice t x g none none)(l:i.k = .slice e)(u:opd env x = .own s 0 len)(r:sto.get s=some ⟨d.size,true,f,xs.map c⟩)(b:xs.length=len) :
  Qv P o env sto nxt ⟨.sl (((xs.take (xs.length:Int).toNat).drop a.toNat).map c),[],[s],0⟩:=by subst b;subst h;obtain ⟨y,k,rfl,j⟩:=n;have:=r_slN (P:=P) (nxt:=nxt) m q l p u r (.some j) .none rfl;rw[Vx (by rw[Wf];omega)];exact this
theorem m_apW{α:Type}{c:α->List DV}(xs:List α){a b:Int}{t e g:Nat}{f:Bool}{s x:Operand}{i d:TyD}{B:Int}(h:0<=a/\a<=b/\b<=xs.length)(q:(((xs.take b.toNat).drop a.toNat).length:Int)*B<=140737488355328/\(((xs.take b.toNat).drop a.toNat).length:Int)<=9223372036854775807)(p:QB P t i)(l:QB P e d)
  (k:o.op = .call ⟨.builtin .append,#[s,x],#[t,t]⟩)(j:i.k = .slice e)(r:opd env s = .lit (.slice none 0 0))(w:opd env x = .own g a.toNat (b.toNat-a.toNat))(u:sto.get g=some ⟨d.size,true,f,xs.map c⟩)
  (y:d.zero.length=d.size)(n:0<d.size)(m:(d.bytes:Int)=B)(v:∀ a,(c a).length=d.size) :
  Qv P o env sto nxt ⟨.own nxt 0 ((xs.take b.toNat).drop a.toNat).length,[(nxt,some ⟨d.size,true,false,((xs.take b.toNat).drop a.toNat).map c⟩)],[g],1⟩:=by
 subst m;obtain ⟨z,A,C⟩:=h;have e:elsF sto (opd env x)=some (((xs.take b.toNat).drop a.toNat).map c,[g]):=by rw[w];unfold elsF;simp only[u];rw[if_pos ⟨trivial,by rw[Wb];omega⟩,List.drop_take,UK,Y9]
 have:=r_appN (P:=P) (nxt:=nxt) k p j l r e y n (Qg v _) (by rw[Wb];exact nat_le (a:=_*_) q.1) (by rw[Wb];unfold maxLen;omega);rw[Wb]at this;exact this
theorem m_apV{α:Type}{c:α->List DV}(xs ys:List α){b:Int}{t e k:Nat}{s x:Operand}{j d:TyD}{g:List Nat}{B:Int}(h:0<=b/\b<=xs.length)(i:(((xs.take b.toNat).length:Int)+ys.length)*B<=140737488355328/\((xs.take b.toNat).length:Int)+ys.length<=9223372036854775807)(w:QB P t j)(r:QB P e d)
  (q:o.op = .call ⟨.builtin .append,#[s,x],#[t,t]⟩)(l:opd env s = .own k 0 (b.toNat-0))(z:ElE env sto d.size x (ys.map c) g)(p:j.k = .slice e)
  (y:sto.get k=some ⟨d.size,true,false,xs.map c⟩)(A:d.zero.length=d.size)(v:0<d.size)(u:(d.bytes:Int)=B) :
  Qv P o env sto nxt ⟨.own nxt 0 (xs.take b.toNat++ys).length,[(k,none),(nxt,some ⟨d.size,true,false,(xs.take b.toNat++ys).map c⟩)],k :: g,1⟩:=by
 subst u;obtain ⟨m,n⟩:=z.ok;rw[UR]at l;have f:(xs.take b.toNat).length=b.toNat:=by rw[Wf];omega
 rw[f]at i;have:=r_app (P:=P) (nxt:=nxt) q w p r l y m rfl rfl (by rw[Wb];omega) rfl A v n (by rw[Wb];exact nat_le (a:=(_+_)*_) i.1) (by rw[Wb];unfold maxLen;omega);dsimp only at this;rw[Wb]at this;rw[WP,UK,We,f];exact this
end
theorem nt{x:Bool}(h:x=true):(!x)=false:=by rw[h];rfl
class MixP(P:Program):Prop where
 ok:P.follows .mixedOrders=true
class TyI(P:Program)(t:Nat)(d:outParam TyD):Prop where
 ok:QB P t d
def ndp:DV->Bool
 | .dp _ _=>false
 | _=>true
structure Sm{α:Type}(x:Option α)(v:α):Prop where
 h:x=some v
structure At{α:Type}(l:List α)(i:Int)(v:α):Prop where
 h:at_ l i=some v
section plain
variable{α β ρ σ:Type}
theorem bd{x:Option α}{K:α->Option β}{r:β}(H:Sm (x.bind K) r):∃ v,Sm x v/\Sm (K v) r:=by obtain ⟨v,a,b⟩:=bnd H.h;exact ⟨v,⟨a⟩,⟨b⟩⟩
theorem ba{l:List α}{i:Int}{K:α->Option β}{r:β}(H:Sm ((at_ l i).bind K) r):∃ v,At l i v/\Sm (K v) r:=by obtain ⟨v,a,b⟩:=bnd H.h;exact ⟨v,⟨a⟩,⟨b⟩⟩
theorem cq{p:Prop}[Decidable p]{A:Option β}{r:β}(H:Sm (if p then A else none) r):p/\Sm A r:=by obtain ⟨a,b⟩:=ck H.h;exact ⟨a,⟨b⟩⟩
theorem fs{p:Prop}[Decidable p]{A B:Option β}{r:β}(H:Sm (if p then A else B) r):(p/\Sm A r)\/(¬ p/\Sm B r):=by
 by_cases h:p
 ·exact .inl ⟨h,⟨iT h H.h⟩⟩
 ·exact .inr ⟨h,⟨iF h H.h⟩⟩
theorem se{a r:β}(H:Sm (some a) r):a=r:=som H.h
end plain
section
variable{P:Program}{env:Env}{sto:Sto}{nxt:Nat}{o:Oper}{ops:Array Oper}{l:List Oper}{K:Qgi->DSt->Prop}
theorem m_quoA{t:Nat}{x y:Operand}{c:Nat}{k:IntKind}{p q:Int}(a:o.op = .binOp .quo t x y c:=by rfl)(d:opd env x = .lit (.int k p):=by rfl)(b:opd env y = .lit (.int k q):=by rfl)(h:¬ q=0:=by first | assumption | decide):Qv P o env sto nxt ⟨.lit (.int k (k.wrap (p.tdiv q))),[],[],0⟩:=m_quo h a d b
theorem m_remA{t:Nat}{x y:Operand}{c:Nat}{k:IntKind}{p q:Int}(a:o.op = .binOp .rem t x y c:=by rfl)(d:opd env x = .lit (.int k p):=by rfl)(b:opd env y = .lit (.int k q):=by rfl)(h:¬ q=0:=by first | assumption | decide):Qv P o env sto nxt ⟨.lit (.int k (p.tmod q)),[],[],0⟩:=m_rem h a d b
theorem m_shlA{t:Nat}{x y:Operand}{c:Nat}{k j:IntKind}{p q:Int}(a:o.op = .binOp .shl t x y c:=by rfl)(d:opd env x = .lit (.int k p):=by rfl)(b:opd env y = .lit (.int j q):=by rfl)(h:0<=q:=by first | assumption | decide):Qv P o env sto nxt ⟨.lit (.int k (Qbv k p q)),[],[],0⟩:=m_shlE h a d b
theorem m_shrA{t:Nat}{x y:Operand}{c:Nat}{k j:IntKind}{p q:Int}(a:o.op = .binOp .shr t x y c:=by rfl)(d:opd env x = .lit (.int k p):=by rfl)(b:opd env y = .lit (.int j q):=by rfl)(h:0<=q:=by first | assumption | decide):Qv P o env sto nxt ⟨.lit (.int k (QbV k p q)),[],[],0⟩:=m_shrE h a d b
theorem m_iaSA{α:Type}{c:α->List DV}{xs:List α}{v:α}{n:Int}{t e:Nat}{x b:Operand}{d a:TyD}{k:IntKind}(g:o.op = .indexAddr t x b:=by rfl)(l:QB P t d:=by exact TyI.ok)(f:d.k = .slice e:=by rfl)(i:QB P e a:=by exact TyI.ok)
  (p:opd env x = .sl (xs.map c):=by rfl)(m:opd env b = .lit (.int k n):=by rfl)(h:At xs n v:=by assumption)(j:(c v).length=a.size:=by rfl):Qv P o env sto nxt ⟨.pp (c v),[],[],0⟩:=m_iaS h.h l i g f p m j
theorem m_iaOA{α:Type}{c:α->List DV}{xs:List α}{v:α}{n:Int}{s len z:Nat}{j f:Bool}{t e:Nat}{x b:Operand}{d a:TyD}{k:IntKind}(i:o.op = .indexAddr t x b:=by rfl)(u:opd env x = .own s 0 len:=by rfl)(p:QB P t d:=by exact TyI.ok)(g:d.k = .slice e:=by rfl)(l:QB P e a:=by exact TyI.ok)
  (r:opd env b = .lit (.int k n):=by rfl)(q:sto.get s=some ⟨z,j,f,xs.map c⟩:=by rfl)(m:xs.length=len:=by first | rfl | omega | (simp;done) | (simp;omega))(h:At xs n v:=by assumption)(w:z=a.size:=by rfl):Qv P o env sto nxt ⟨.ptr s n.toNat 0,[],[s],0⟩:=m_iaO h.h p l i u m g r q w
theorem m_ldOA{α:Type}{c:α->List DV}{xs:List α}{v:α}{n:Int}{t:Nat}{p:Operand}{a:TyD}{s j z:Nat}{arr frz:Bool}{d:DV}(f:o.op = .load t p:=by rfl)(g:QB P t a:=by exact TyI.ok)(e:opd env p = .ptr s n.toNat j:=by rfl)(i:sto.get s=some ⟨z,arr,frz,xs.map c⟩:=by rfl)(h:At xs n v:=by assumption)
  (b:ldD a ((c v).drop j)=some d:=by rfl)(k:ndp d=true:=by rfl):Qv P o env sto nxt ⟨d,[],[s],0⟩:=m_ldO h.h g f e i b
theorem m_faA{t f:Nat}{p:Operand}{c:TyD}{fs:List (Nat×Nat)}{off a:Nat}{d:DV}{b:List Nat}(h:o.op = .fieldAddr t p f:=by rfl)(i:QB P t c:=by exact TyI.ok)(e:c.k = .struct fs:=by rfl)(g:fs[f]?=some (off,a):=by rfl)(j:a≠0:=by decide)
  (k:FaD env sto off p d b:=by first | exact .ptr rfl rfl | exact .pp rfl):Qv P o env sto nxt ⟨d,[],b,0⟩:=m_fa i h e g j k
theorem Qf2{t:Nat}{a:TyD}(b:o.op = .alloc t:=by rfl)(d:QB P t a:=by exact TyI.ok)(e:a.zero.length=a.size:=by rfl)(c:0<a.size:=by decide):Qv P o env sto nxt ⟨.ptr nxt 0 0,[(nxt,some ⟨a.size,false,false,[a.zero]⟩)],[],1⟩:=r_alloc b d e c
theorem m_boxA{t:Nat}{x:Operand}{a:TyD}{cs:List DV}{r:List Nat}(b:o.op = .box t x:=by rfl)(d:QB P t a:=by exact TyI.ok)(f:QbE a (opd env x)=some cs:=by rfl)(e:boxF sto cs=some r:=by rfl)(c:0<a.size:=by decide) :
  Qv P o env sto nxt ⟨.ptr nxt 0 0,[(nxt,some ⟨a.size,false,false,[cs]⟩)],r,1⟩:=r_box b d f e c
theorem Qf1{t:Nat}{parts:Array (Nat×Operand)}{l:List (Nat×Operand)}{b:TyD}{fs:List (Nat×Nat)}{a:List DV}{r:List Nat}(e:o.op = .build t parts:=by rfl)(f:QB P t b:=by exact TyI.ok)(c:parts=l.toArray:=by rfl)(d:b.k = .struct fs:=by rfl)
  (h:QdQ sto (fs[·]?) b.zero (l.map λp=>(p.1,opd env p.2))=some (a,r):=by rfl):Qv P o env sto nxt ⟨.agg a,[],r,0⟩:=r_build e c f d h
theorem m_cnvA{c a:Nat}{x:Operand}{g b:TyD}{k q:IntKind}{n:Int}(f:o.op = .convert c a x:=by rfl)(h:QB P c g:=by exact TyI.ok)(d:QB P a b:=by exact TyI.ok)(e:b.k = .int k:=by rfl)(i:opd env x = .lit (.int q n):=by rfl):Qv P o env sto nxt ⟨.lit (.int k (k.wrap n)),[],[],0⟩:=r_conv f h d e i
theorem m_lenA{x:Operand}{t:Nat}{b:TyD}{e n:Nat}{a:List Nat}(d:o.op = .call ⟨.builtin .len,#[x],#[t]⟩:=by rfl)(f:QB P t b:=by exact TyI.ok)(c:b.k = .slice e:=by rfl)
  (g:LenD env sto x n a:=by first | exact .map rfl | exact .own rfl rfl | exact .nil rfl | exact .sl rfl):Qv P o env sto nxt ⟨.lit (.int .i64 n),[],a,0⟩:=m_len f d c g
theorem m_eqBA{t:Nat}{x y:Operand}{e:Nat}{p q:Bool}{a:TyD}(c:o.op = .binOp .eql t x y e:=by rfl)(g:opd env x = .lit (.bool p):=by rfl)(d:opd env y = .lit (.bool q):=by rfl)(f:QB P t a:=by exact TyI.ok)(b:a.k = .bool:=by rfl):Qv P o env sto nxt ⟨.lit (.bool (p == q)),[],[],0⟩:=r_eqB c f b g d
theorem m_neBA{t:Nat}{x y:Operand}{e:Nat}{p q:Bool}{a:TyD}(c:o.op = .binOp .neq t x y e:=by rfl)(g:opd env x = .lit (.bool p):=by rfl)(d:opd env y = .lit (.bool q):=by rfl)(f:QB P t a:=by exact TyI.ok)(b:a.k = .bool:=by rfl):Qv P o env sto nxt ⟨.lit (.bool (p != q)),[],[],0⟩:=r_neB c f b g d
theorem m_loadA{t:Nat}{p:Operand}{b:TyD}{d:DV}{cs:List DV}{a:List Nat}(e:o.op = .load t p:=by rfl)(f:QB P t b:=by exact TyI.ok)(g:Cells env sto p cs a:=by first | exact .ptr rfl rfl rfl | exact .pp rfl)(c:ldD b cs=some d:=by rfl)(h:ndp d=true:=by rfl):Qv P o env sto nxt ⟨d,[],a,0⟩:=m_load f e g c
theorem Qf0{t:Nat}{p x:Operand}{b:TyD}{us:List (Nat×Option Ob)}{a:List Nat}(c:o.op = .store t p x:=by rfl)(d:QB P t b:=by exact TyI.ok)
  (e:StD env sto b p x us a:=by exact .box rfl rfl rfl rfl rfl rfl rfl (by first | decide | exact V0 rfl)):Qv P o env sto nxt ⟨.any,us,a,0⟩:=m_store d c e
theorem m_pickA{c x y:Operand}{t u:Bool}(b:o.op = .pick c x y:=by rfl)(a:opd env c = .lit (.bool t):=by rfl)(e:t=u:=by first | exact decide_eq_true Oa | exact decide_eq_false Oa | assumption | exact eq_false_of_ne_true Oa | exact congrArg not (decide_eq_true Oa) | exact congrArg not (decide_eq_false Oa) | exact nt Oa | exact congrArg not (eq_false_of_ne_true Oa) | rfl):Qv P o env sto nxt ⟨cond u (opd env x) (opd env y),[],[],0⟩:=m_pickE e b a
theorem gF{g t:Nat}{b c:Bool}(f:o.guard=some (g,b):=by rfl)(a:(ops[g]?).bind (·.dst)=some t:=by rfl)(d:env.get t = .lit (.bool c):=by rfl)(e:c=b:=by first | exact decide_eq_true Oa | exact decide_eq_false Oa | assumption | exact eq_false_of_ne_true Oa | exact congrArg not (decide_eq_true Oa) | exact congrArg not (decide_eq_false Oa) | exact nt Oa | exact congrArg not (eq_false_of_ne_true Oa) | rfl):Grd ops o env:=gY e f a d
structure Wr(G:Prop):Prop where
 get:G
theorem goA{d:DV}{us:List (Nat×Option Ob)}{a:List Nat}{n:Nat}(h:Qv P o env sto nxt ⟨d,us,a,n⟩)
  (k:Q0 P ops l ⟨env.put o.dst d,sto.upd us,nxt+n⟩ λouts=>K ((⟨d,us,a,n⟩,nxt) :: outs))(b:Grd ops o env:=by first | exact .none rfl | exact gF):Q0 P ops (o :: l) ⟨env,sto,nxt⟩ K:=go h k b
theorem noA{g t:Nat}{b c:Bool}(k:Q0 P ops l ⟨env.put o.dst (.tup []),sto,nxt⟩ λouts=>K ((⟨.tup [],[],[],0⟩,nxt) :: outs))
  (f:o.guard=some (g,b):=by rfl)(a:(ops[g]?).bind (·.dst)=some t:=by rfl)(d:env.get t = .lit (.bool c):=by rfl)(e:c=!b:=by first | exact decide_eq_true Oa | exact decide_eq_false Oa | assumption | exact eq_false_of_ne_true Oa | exact congrArg not (decide_eq_true Oa) | exact congrArg not (decide_eq_false Oa) | exact nt Oa | exact congrArg not (eq_false_of_ne_true Oa) | rfl):Q0 P ops (o :: l) ⟨env,sto,nxt⟩ K:=noE e k f a d
theorem noB{g t:Nat}{b:Bool}(k:Q0 P ops l ⟨env.put o.dst (.tup []),sto,nxt⟩ λouts=>K ((⟨.tup [],[],[],0⟩,nxt) :: outs))
  (d:o.guard=some (g,b):=by rfl)(a:(ops[g]?).bind (·.dst)=some t:=by rfl)(c:env.get t = .tup []:=by rfl):Q0 P ops (o :: l) ⟨env,sto,nxt⟩ K:=noU k d a c
end
section
variable{P:Program}{nt n0:Nat}{Q:Exit->DSt->Prop}{st:DSt}{id:Nat}{ops:Array Oper}{l:List Oper}{y:Code}{G:Prop}
theorem d_cutS{β ρ:Type}{x y:Code}{X:Option β}{K:β->Option ρ}{r:ρ}(I:β->DSt)(H:Sm (X.bind K) r)
  (e:∀ z,Sm X z->DWp P nt n0 x (QcT (λs=>ZB n0 s (I z)) Q) st)(d:∀ b,Sm (K b) r->DWp P nt n0 y Q (I b)):DWp P nt n0 (.seq x y) Q st:=d_cutF I H.h (λz a=>e z ⟨a⟩) λb c=>d b ⟨c⟩
theorem d_cutT{β ρ:Type}{x y:Code}{X:Option (β ⊕ ρ)}{K:β->Option ρ}{r:ρ}(I:β->DSt)(H:Sm (bndR X K) r)
  (e:∀ z,(∀ r',z = .inr r'->r'=r)->Sm X z->DWp P nt n0 x (QcT (λs=>∃ b,z = .inl b/\ZB n0 s (I b)) Q) st)(d:∀ b,Sm (K b) r->DWp P nt n0 y Q (I b)):DWp P nt n0 (.seq x y) Q st:=d_cutR I H.h (λz a h=>e z h ⟨a⟩) λb c=>d b ⟨c⟩
theorem d_loopS{β σ:Type}{a:Code}{f:σ->Option (LS σ β)}{c:σ}{z:β}(I:σ->DSt)(H:Sm (Qf f c) z)(e:ZB n0 st (I c))
  (g:∀ s y,(∀ b,y = .out b->b=z)->Sm (f s) y->DWp P nt n0 a (QcT (λs'=>∃ x',y = .go x'/\ZB n0 s' (I x')) Q) (I s)):DWp P nt n0 (.loop a) Q st:=d_loopF I H.h e λs y d h=>g s y h ⟨d⟩
end
section
variable{P:Program}{o:Oper}{env:Env}{sto:Sto}{nxt:Nat}
theorem At.lt{α:Type}{xs:List α}{n:Int}{v:α}(h:At xs n v):n.toNat<xs.length:=(at_lt h.h).2
theorem At.get{α:Type}{xs:List α}{n:Int}{v:α}(h:At xs n v){c:α->List DV}:(xs.map c)[n.toNat]?=some (c v):=by rw[Wh,(Qg1 h.h).2];rfl
theorem Qv.us{d:DV}{us a:List (Nat×Option Ob)}{b:List Nat}{n:Nat}(h:Qv P o env sto nxt ⟨d,us,b,n⟩)(e:us=a):Qv P o env sto nxt ⟨d,a,b,n⟩:=e▸h
theorem Qv.rs{d:DV}{us:List (Nat×Option Ob)}{c b:List Nat}{n:Nat}(h:Qv P o env sto nxt ⟨d,us,c,n⟩)(e:∀ s∈c,s∈b):Qv P o env sto nxt ⟨d,us,b,n⟩:=λF m a f g i j=>h F m a f g (λs k=>i s (e s k)) j
theorem renO_deep{α:Type}{cd:α->List DV}{φ:Nat->Nat}{z:Nat}{f:Bool}{xs:List α}(h:∀ a,(cd a).all dpB=true):renO φ ⟨z,false,f,xs.map cd⟩=⟨z,false,f,xs.map cd⟩:=by
 unfold renO;dsimp only;rw[if_neg Od];congr 1;rw[Va];refine W7 λa _=>?_;show renL φ (cd a)=cd a;rw[QbB];have:=WZ.1 (h a);conv=>rhs;rw[<- Y6 (cd a)]
 refine W7 λd b=>?_;have:=this d b;cases d with
 | lit v=>unfold ren;rfl
 | sl xs=>unfold ren;rfl
 | dp z l=>unfold ren;rfl
 | _=>cases this
theorem m_ldD{α β:Type}{cd:α->List DV}{c:β->List DV}{xs:List α}{ys:List β}{n:Int}{v:α}{t:Nat}{p:Operand}{a:TyD}{s j z f:Nat}(h:At xs n v)(row:List DV)(m:QB P t a)(k:(cd v)[j]?=some (.dp z (ys.map c)))(l:(cd v).set j (.own nxt 0 ys.length)=row)(i:o.op = .load t p:=by rfl)(b:a.agg=false:=by rfl)(d:a.size=1:=by rfl)(g:opd env p = .ptr s n.toNat j:=by rfl)
  (q:sto.get s=some ⟨f,false,false,xs.map cd⟩:=by rfl):Qv P o env sto nxt ⟨.own nxt 0 ys.length,[(s,some ⟨f,false,false,(xs.map cd).set n.toNat row⟩),(nxt,some ⟨z,true,false,ys.map c⟩)],[s],1⟩:=by
 have:=r_ldD (P:=P) (nxt:=nxt) i m b d g q rfl h.get k;rw[Wb]at this;dsimp only at this;have e:setC (xs.map cd) n.toNat j (.own nxt 0 ys.length)=(xs.map cd).set n.toNat row:=by unfold setC;rw[VM,h.get,WG,l]
 rw[e]at this;exact this
theorem m_ldR{α:Type}{cd:α->List DV}{xs:List α}{n:Int}{v:α}{t:Nat}{p:Operand}{a:TyD}{s j c:Nat}{row:List DV}{d:DV}(h:At xs n v)(g:QB P t a)(f:o.op = .load t p:=by rfl)(e:opd env p = .ptr s n.toNat j:=by rfl)
  (i:sto.get s=some ⟨c,false,false,(xs.map cd).set n.toNat row⟩:=by rfl)(b:ldD a (row.drop j)=some d:=by rfl):Qv P o env sto nxt ⟨d,[],[s],0⟩ :=
 r_load f g e i (by show ((xs.map cd).set n.toNat row)[n.toNat]?=_;rw[WN (by rw[Wb];exact h.lt)]) b
theorem m_stR{α:Type}{cd:α->List DV}{xs:List α}{n:Int}{v:α}{t:Nat}{p x:Operand}{d:TyD}{s j c:Nat}{b:List (List DV)}{a cs:List DV}{r:List Nat}(h:At xs n v)(row:List DV)(f:(b=xs.map cd/\a=cd v)\/b=(xs.map cd).set n.toNat a)(q:QB P t d)(k:o.op = .store t p x:=by rfl)(i:opd env p = .ptr s n.toNat j:=by rfl)
  (w:sto.get s=some ⟨c,false,false,b⟩:=by rfl)(y:QbE d (opd env x)=some cs:=by rfl)(u:boxF sto cs=some r:=by rfl)(m:setCells a j cs=row:=by rfl)(l:j+cs.length<=a.length:=by exact V0 rfl):Qv P o env sto nxt ⟨.any,[(s,some ⟨c,false,false,(xs.map cd).set n.toNat row⟩)],s :: r,0⟩:=by
 have g:b[n.toNat]?=some a:=by
  rcases f with ⟨rfl,rfl⟩ | rfl
  ·exact h.get
  ·rw[WN (by rw[Wb];exact h.lt)]
 have:=Qgt (P:=P) (nxt:=nxt) k q i w rfl rfl y u g l;dsimp only at this;have e:b.set n.toNat (setCells a j cs)=(xs.map cd).set n.toNat row:=by
  rw[m];rcases f with ⟨rfl,_⟩ | rfl
  ·rfl
  ·rw[List.set_set]
 rw[e]at this;exact this
theorem m_litD{t e len:Nat}{parts:Array (Nat×Operand)}{l:List (Nat×Operand)}{d c:TyD}{a:List DV}{r r2:List Nat}(b:List (List DV))(u:QB P t d)(m:QB P e c)(k:o.op = .buildSlice t len parts:=by rfl)(f:parts=l.toArray:=by rfl)(j:d.k = .slice e:=by rfl)
  (x:c.zero.length=c.size:=by rfl)(s:0<c.size:=by decide)(q:0<len:=by decide)(g:len*c.size<=16777216:=by decide)
  (h:QdQ sto (λi=>some (i*c.size,c.size)) (QdJ c len) (l.map λp=>(p.1,opd env p.2))=some (a,r):=by rfl)(v:boxF sto a=some r2:=by rfl)(w:QbD len c.size a=b:=by rfl)(n:len=b.length:=by rfl) :
  Qv P o env sto nxt ⟨.own nxt 0 b.length,[(nxt,some ⟨c.size,false,false,b⟩)],r++r2,1⟩:=by have:=r_litR (P:=P) (nxt:=nxt) k f u j m x s q g h v;rw[w,n]at this;exact this
theorem m_del{α:Type}{c:α->List DV}(xs:List α){a b:Int}{t e k m j:Nat}{s x:Operand}{n d:TyD}{l:List Nat}(h:0<=a/\a<=b/\b<=xs.length)(u:QB P t n)(F:QB P e d)(C:o.op = .call ⟨.builtin .append,#[s,x],#[t,t]⟩)(D:opd env s = .own k 0 m)(i:m=a.toNat)(z:sto.get k=some ⟨j,true,false,xs.map c⟩)
  (E:elsF sto (opd env x)=some (((xs.take (xs.length:Int).toNat).drop b.toNat).map c,l))(w:(xs.length:Int)*d.bytes<=140737488355328/\(xs.length:Int)<=9223372036854775807)(A:n.k = .slice e:=by rfl)(B:d.zero.length=d.size:=by rfl)(r:0<d.size:=by decide)(g:j=d.size:=by rfl)(G:∀ v,(c v).length=d.size:=by exact λ_=>rfl) :
  Qv P o env sto nxt ⟨.own nxt 0 (xs.take a.toNat++(xs.take (xs.length:Int).toNat).drop b.toNat).length,[(k,none),(nxt,some ⟨d.size,true,false,(xs.take a.toNat++(xs.take (xs.length:Int).toNat).drop b.toNat).map c⟩)],k :: l,1⟩:=by
 subst i;have f:((xs.take (xs.length:Int).toNat).drop b.toNat).length=xs.length-b.toNat:=by rw[Wv,Wf];omega
 have:=r_app (P:=P) (nxt:=nxt) C u A F D z E rfl rfl (by rw[Wb];omega) g B r (λy q=>by obtain ⟨v,_,rfl⟩:=Wm.1 q;exact G v) (by
  rw[Wb,f]
  have p:a.toNat+(xs.length-b.toNat)<=xs.length:=by omega
  exact Ub (Wy _ p) (nat_le (a:=_*_) w.1)) (by rw[Wb,f];unfold maxLen;omega)
 dsimp only at this;rw[<- UK,<- WP,Wb,f,show a.toNat+(xs.length-b.toNat)=(xs.take a.toNat++(xs.take (xs.length:Int).toNat).drop b.toNat).length by rw[We,Wf,f];omega]at this;exact this
theorem m_iaG{v n:Int}{N t e g:Nat}{b:Operand}{c a:TyD}{k:IntKind}(h:At tabL n v)(p:QB P t c)(l:QB P e a)(j:o.op = .indexAddr t (.global g) b:=by rfl)(f:c.k = .array N e:=by rfl)(q:opd env b = .lit (.int k n):=by rfl)(m:gTab=some (g,tabL):=by rfl)(u:tabL.length=N:=by rfl)(r:a.size=1:=by rfl):Qv P o env sto nxt ⟨.pp [.lit (.int .u8 v)],[],[],0⟩:=by obtain ⟨d,s⟩:=at_lt h.h;exact r_iaG j p f l (i:=n.toNat) (by rw[Vl d];exact q) m (Qg1 h.h).2 r Oo
theorem m_iaX{α:Type}{xs:List α}{v:α}{n:Int}{N t e s:Nat}{x b:Operand}{c a:TyD}{k:IntKind}{l:Ob}(h:At xs n v)(w:n<(N:Int))(m:QB P t c)(j:QB P e a)(g:o.op = .indexAddr t x b:=by rfl)(f:c.k = .array N e:=by rfl)(r:opd env x = .ptr s 0 0:=by rfl)(q:opd env b = .lit (.int k n):=by rfl)(p:sto.get s=some l:=by rfl)(u:a.size=1:=by rfl):Qv P o env sto nxt ⟨.ptr s 0 n.toNat,[],[s],0⟩:=by have d:=(at_lt h.h).1;have:=r_iaA (P:=P) (nxt:=nxt) g m f j r (i:=n.toNat) (by rw[Vl d];exact q) p Oo;rw[u,W0,YG]at this;exact this
theorem cellX{α:Type}{c1:α->DV}{xs:List α}{n:Int}{v:α}(h:At xs n v):∃ l,(xs.map c1).drop n.toNat=c1 v :: l:=by refine ⟨(xs.map c1).drop (n.toNat+1),?_⟩;have a:=(Qg1 h.h).2;obtain ⟨b,c⟩:=Wo.1 a;rw[Vi (by rw[Wb];exact b),Vt,c]
theorem m_ldX{α:Type}{c1:α->DV}{xs:List α}{v:α}{n:Int}{t s z:Nat}{p:Operand}{a:TyD}{f:Bool}(h:At xs n v)(g:QB P t a)(i:sto.get s=some ⟨z,false,f,[xs.map c1]⟩)(d:o.op = .load t p:=by rfl)(c:opd env p = .ptr s 0 n.toNat:=by rfl)(k:a.agg=false:=by rfl)(j:a.size=1:=by rfl)(e:∀ l,ldD a (c1 v :: l)=some (c1 v):=by exact λ_=>rfl):Qv P o env sto nxt ⟨c1 v,[],[s],0⟩:=by obtain ⟨l,b⟩:=cellX (c1:=c1) h;exact r_load d g c i rfl (by rw[b];exact e l)
theorem m_stX{α:Type}{c1:α->DV}{xs:List α}{v:α}{n:Int}{t s z:Nat}{p x:Operand}{b:TyD}{r:List Nat}(h:At xs n v)(a:α)(e:QB P t b)(g:sto.get s=some ⟨z,false,false,[xs.map c1]⟩)(d:o.op = .store t p x:=by rfl)(c:opd env p = .ptr s 0 n.toNat:=by rfl)(i:QbE b (opd env x)=some [c1 a]:=by rfl)(f:boxF sto [c1 a]=some r:=by rfl):Qv P o env sto nxt ⟨.any,[(s,some ⟨z,false,false,[(xs.set n.toNat a).map c1]⟩)],s :: r,0⟩:=by have:=Qgt (P:=P) (nxt:=nxt) d e c g rfl rfl i f (y:=xs.map c1) rfl (by rw[Wb];exact h.lt);rw[show (xs.set n.toNat a).map c1=setCells (xs.map c1) n.toNat [c1 a] by rw[YQ];rfl];exact this
theorem delV{α:Type}{c:α->List DV}{xs:List α}{b:Int}{k g e h:Nat}{x:Operand}{f:Bool}(j:opd env x = .own k g e)(d:g=b.toNat)(a:e=(xs.length:Int).toNat-b.toNat)(l:0<=b/\b<=xs.length)(i:sto.get k=some ⟨h,true,f,xs.map c⟩):elsF sto (opd env x)=some (((xs.take (xs.length:Int).toNat).drop b.toNat).map c,[k]):=by subst d a;rw[j];show (match sto.get k with | some ob=>if ob.arr=true/\b.toNat+((xs.length:Int).toNat-b.toNat)<=ob.els.length then some ((ob.els.drop b.toNat).take ((xs.length:Int).toNat-b.toNat),[k]) else none | none=>none)=_;rw[i];dsimp only;rw[if_pos ⟨rfl,by rw[Wb];omega⟩,<- Y9,WD (by rw[Wb,Wv];omega),WD Oo]
theorem m_apD{α:Type}{cd:α->List DV}(xs:List α)(v:α)(row:List DV){t e k j len d f:Nat}{s x:Operand}{m b:TyD}{B:Int}(l:((xs.length:Int)+1)*B<=140737488355328/\(xs.length:Int)+1<=9223372036854775807)(p:QB P t m)(C:QB P e b)(w:o.op = .call ⟨.builtin .append,#[s,x],#[t,t]⟩)(z:opd env s = .own k 0 len)(y:len=xs.length)(q:sto.get k=some ⟨d,false,false,xs.map cd⟩)(A:opd env x = .own j 0 1)(g:sto.get j=some ⟨f,false,false,[row]⟩)
  (r:m.k = .slice e:=by rfl)(u:b.zero.length=b.size:=by rfl)(n:0<b.size:=by decide)(h:d=b.size:=by rfl)(c:f=b.size:=by rfl)(i:noDpB [row]=true:=by rfl)(D:(b.bytes:Int)=B:=by rfl) :
  Qv P o env sto nxt ⟨.own nxt 0 (xs++[v]).length,[(k,none),(nxt,some ⟨b.size,false,false,xs.map cd++[row]⟩)],[k,j],1⟩:=by subst y;rw[show (xs++[v]).length=xs.length+1 by simp];have:=r_appR (P:=P) (nxt:=nxt) w p r C z q A g rfl rfl (by show xs.length<=(xs.map cd).length;rw[Wb];exact Wl _) (Wl 1) h c i u n (by subst D;exact nat_le (a:=(_+1)*_) l.1) (by have:=l.2;unfold maxLen;omega);rw[show (⟨d,false,false,xs.map cd⟩:Ob).els.take xs.length=xs.map cd from WD Os,show (⟨f,false,false,[row]⟩:Ob).els.take 1=[row] from rfl]at this;exact this
end
section
variable{n0:Nat}{env:Env}{sto:Sto}{nxt:Nat}{α β:Type}{cd:α->List DV}{c:β->List DV}{xs:List α}{ys:List β}{n:Int}{v:α}
theorem attR{s t z d j m:Nat}{row:List DV}(h:At xs n v)(a:List DV)(b:Nat.beq s t=false)(k:sto.get s=some ⟨d,false,false,(xs.map cd).set n.toNat row⟩)(i:sto.get t=some ⟨z,true,false,ys.map c⟩)(e:m=ys.length)(f:row[j]?=some (.own t 0 m))(g:row.set j (.dp z (ys.map c))=a) :
  ZB n0 ⟨env,sto,nxt⟩ ⟨env,(s,⟨d,false,false,(xs.map cd).set n.toNat a⟩) :: sto.drop t,nxt⟩ :=
 ZB.att k i b (x:=row) (by rw[WN (by rw[Wb];exact h.lt)]) (by rw[f,e,Wb]) (by
  unfold setC
  rw[VM,WN (by rw[Wb];exact h.lt),WG,g,List.set_set])
theorem tellR{s a:Nat}{row:List DV}(b:α)(c:sto.get s=some ⟨a,false,false,(xs.map cd).set n.toNat row⟩)(d:row=cd b):ZB n0 ⟨env,sto,nxt⟩ ⟨env,(s,⟨a,false,false,(xs.set n.toNat b).map cd⟩) :: sto,nxt⟩ :=
 ZB.tell c λm h=>by rw[d]at h;rw[YQ];exact h
theorem attL{s t z d j m:Nat}{row:List DV}(a:List DV)(b:Nat.beq s t=false)(k:sto.get s=some ⟨d,false,false,xs.map cd++[row]⟩)(h:sto.get t=some ⟨z,true,false,ys.map c⟩)(e:m=ys.length)(f:row[j]?=some (.own t 0 m))(g:row.set j (.dp z (ys.map c))=a) :
  ZB n0 ⟨env,sto,nxt⟩ ⟨env,(s,⟨d,false,false,xs.map cd++[a]⟩) :: sto.drop t,nxt⟩ :=
 ZB.att k h b (i:=xs.length) (x:=row) (by rw[WC Os];simp) (by rw[f,e,Wb]) (by
  unfold setC
  rw[VM,WC Os]
  simp[g])
theorem tellL{s a:Nat}{row:List DV}(b:α)(c:sto.get s=some ⟨a,false,false,xs.map cd++[row]⟩)(d:row=cd b):ZB n0 ⟨env,sto,nxt⟩ ⟨env,(s,⟨a,false,false,(xs++[b]).map cd⟩) :: sto,nxt⟩ :=
 ZB.tell c λm h=>by rw[d]at h;simpa using h
theorem tellS{s b:Nat}{row:List DV}(h:At xs n v)(d:sto.get s=some ⟨b,false,false,(xs.map cd).set n.toNat row⟩)(f:row=cd v):ZB n0 ⟨env,sto,nxt⟩ ⟨env,(s,⟨b,false,false,xs.map cd⟩) :: sto,nxt⟩ :=
 ZB.tell d λm a=>by
  rw[f]at a;have e:(xs.map cd).set n.toNat (cd v)=xs.map cd:=by rw[<- YQ];congr 1;obtain ⟨c,rfl⟩:=at_elem h.h;exact YX c
  rw[e]at a;exact a
theorem QcS{s z0:Nat}(a:sto.get s=some ⟨z0,true,false,[]⟩):ZB n0 ⟨env,sto,nxt⟩ ⟨env,(s,⟨z0,false,false,([]:List α).map cd⟩) :: sto,nxt⟩:=ZB.unarr a
theorem Qdz{s z:Nat}{φ:Nat->Nat}{f:Bool}(c:sto.get s=some (renO φ ⟨z,false,f,xs.map cd⟩))(h:∀ a,(cd a).all dpB=true):ZB n0 ⟨env,sto,nxt⟩ ⟨env,(s,⟨z,false,f,xs.map cd⟩) :: sto,nxt⟩:=ZB.tell c λm b=>by rw[renO_deep h]at b;exact b
def lD(z:Nat)(c:β->List DV)(q:List β):List DV:=[.dp z (q.map c)]
end
open Go.RowKit Go.Lib Go.Shelf
theorem Q6{P:Program}(w:World)(n t y e:TypeId)(k:Nat)(b o c f:Nat)(a:Addr)(d g:Nat)(cs:List Value)
  (u:P.underlying n=some (.slice e))(m:(P.info? e).map (·.size)=some k)(z:cs.length=Nat.min d c*k)
  (h:∀ j v,cs[j]?=some v->w.cell? (a.add j)=some v)(x:∀ j,j<cs.length->(w.cell? ⟨b,o+j,none⟩).isSome=true)(r:∀ j,j<cs.length->w.frozen? ⟨b,o+j,none⟩=false)(s:∀ v∈cs,v.oneCell'=true) :
  (Builtin.copy_ #[n,t] y #[.slice (some ⟨b,o,none⟩) c f,.slice (some a) d g]).run P w = .ok (goInt (Nat.min d c:Nat)) (w.setCells b o cs):=by
 have p:=run_loadCells_list (P:=P) w a cs h;have l:=run_storeCells_cells (P:=P) b o cs 0 w (by simpa using x) (by simpa using r) s;cases hq:P.info? e with
 | none=>simp[hq]at m
 | some i =>
  have q:i.size=k:=by simpa [hq] using m
  simp[Builtin.copy_,run_underlying u,Builtin.lenOf,Builtin.firstCells,sizeOf,typeInfo,hq,q,<- z,p,l]
set_option maxHeartbeats 4000000 in
set_option maxRecDepth 100000 in
theorem insS_shift (b off n c i d a m A:Nat) (cs vs:List Value) (w:World) (hi:i<n) (hm:0<m) (M:n+m<=c) (Y:c<=9223372036854775807) (z:d≠b)
  (U:cs.length=n*3) (J:vs.length=m*3)
  (R:∀ j v,cs[j]?=some v->w.cell? ⟨b,off+j,none⟩=some v) (r:∀ j,j<(n+m)*3->(w.cell? ⟨b,off+j,none⟩).isSome=true) (B:∀ j,j<(n+m)*3->w.frozen? ⟨b,off+j,none⟩=false)
  (S:∀ j v,vs[j]?=some v->w.cell? ⟨d,a+j,none⟩=some v) (Q:∀ v∈cs,v.oneCell'=true) (K:∀ v∈vs,v.oneCell'=true)
  (Z tB:TypeId) (V X:Nat) (N:w.shape? d=some (Z,V)) (O:w.shape? b=some (tB,X)) (L:X≠0) (I:w.frozen? ⟨d,a,none⟩=false) (T:w.frozen? ⟨d,V,none⟩=false) :
  Calls Tryz.prog 61 #[.slice (some ⟨b,off,none⟩) n c,.int .i64 i,.slice (some ⟨d,a,none⟩) m A] w λe w' =>
   e = .returned (.slice (some ⟨b,off,none⟩) (n+m) c)/\w'=(w.drew.setCells b (off+(i+m)*3) (cs.drop (i*3))).setCells b (off+i*3) vs:=by
 have aa:¬ ((m:Int)=0):=by omega
 have C:Tryz.prog.follows .mixedOrders=true:=by kernel_rfl
 have ab:¬ ((i:Int)=(n:Int)):=by omega
 have s:(Tryz.prog.info? 62).map (·.size)=some 3:=by kernel_rfl
 have D:∀ F cb,(callFunc 89 #[.slice (some ⟨d,a,none⟩) m A,.slice (some ⟨b,off+(i+m)*3,none⟩) F cb]).run Tryz.prog w = .ok (.value (.bool false)) w:=λF cb=>by
  rw[run_callFunc_extern Tryz.func89 Ok Ok Ok (e:=Extern.SlicesOverlaps.overlaps #[26,26] #[4]) Ok,
   Lib.run_overlaps_apart w 26 4 62 Tryz.underlying26 3 Tryz.sizeOf62 ⟨d,a,none⟩ ⟨b,off+(i+m)*3,none⟩ m A F cb z Z tB V X N O L I T]
  rfl
 have E:(cs.drop (i*3)).length=(n-i)*3:=by rw[Wv,U];omega
 have ac:IntKind.i64.wrap ((i:Int)+(m:Int))=(i:Int)+(m:Int):=by rw[IntKind.wrap_i64];omega
 have ad:(0:Int)<=(i:Int)+(m:Int):=by omega
 have ae:i<=n:=by omega
 have af:((i:Int)+(m:Int)).toNat=i+m:=by omega
 have ag:¬ (c=i+m):=by omega
 have ah:(i:Int)<=(n:Int)+(m:Int):=by omega
 have ai:¬ (c=i):=by omega
 have f:Nat.min (n+m-i) (n+m-(i+m))=n-i:=by simp only[U3];split <;> omega
 have g:Nat.min m (n+m-i)=m:=by simp only[U3];split <;> omega
 have l:∀ p q G,(Builtin.copy_ #[26,26] p #[.slice (some ⟨b,off+(i+m)*3,none⟩) (n+m-(i+m)) q,.slice (some ⟨b,off+i*3,none⟩) (n+m-i) G]).run Tryz.prog w.drew = .ok (goInt (n-i:Nat)) (w.drew.setCells b (off+(i+m)*3) (cs.drop (i*3))):=λp q G=>by
  rw[<- f];exact Q6 w.drew _ _ p 62 3 b (off+(i+m)*3) (n+m-(i+m)) q ⟨b,off+i*3,none⟩ (n+m-i) G (cs.drop (i*3)) Tryz.underlying26 s (by rw[E,f])
   (λj v o=>by rw[Addr.add_lit,Vg];exact R (i*3+j) v (by rwa [WW]at o))
   (λj o=>by rw[Vg];exact r _ Oo) (λj o=>by rw[Vg];exact B _ Oo) (λv hv=>Q v (VV hv))
 obtain ⟨W1,hW1⟩:∃ W1,W1=w.drew.setCells b (off+(i+m)*3) (cs.drop (i*3)):=⟨_,rfl⟩;have t:∀ k,k<(n+m)*3->(W1.cell? ⟨b,off+k,none⟩).isSome=true:=λk hk=>by rw[hW1];exact isSome_setCells b _ _ _ (λj o=>by rw[Vg];exact r _ Oo) _ (r k hk)
 have u:∀ (W:World),(∀ x,W.cell? x=W1.cell? x)->(∀ x,W.frozen? x=W1.frozen? x)->∀ p q,(Builtin.copy_ #[26,26] p #[.slice (some ⟨b,off+i*3,none⟩) (n+m-i) q,.slice (some ⟨d,a,none⟩) m A]).run Tryz.prog W = .ok (goInt (m:Nat)) (W.setCells b (off+i*3) vs):=λW y H p q=>by
  have h:=Q6 (P:=Tryz.prog) W 26 26 p 62 3 b (off+i*3) (n+m-i) q ⟨d,a,none⟩ m A vs Tryz.underlying26 s (by rw[J,g])
   (λj v o=>by
    rw[Addr.add_lit,y,hW1,World.cell?_setCells_out b _ _ _ _ (λh _=>absurd h z)]
    exact S j v o)
   (λj o=>by rw[y,Vg];exact t _ Oo) (λj o=>by rw[H,hW1,World.frozen?_setCells,Vg];exact B _ Oo) K
  rwa [g]at h
 rw[<- hW1]at l;go_enter Tryz.func61,Tryz.ntmps61;go_wp2_with (simp only[D]);go_region_law_o (refine step_copy_runI rfl _ _ 26 26 rfl _ _ (by simp[Act.eval,Act.put]) (by simp[Act.eval,Act.put]) (l _ _ _) ?_);go_wp2_with (at_builtin;refine wpList_copy_runI _ rfl _ _ 26 26 rfl _ _ rfl rfl (u _ (λ_=>rfl) (λ_=>rfl) _ _) ?_);go_ret;first | exact ⟨rfl,rfl⟩ | exact ⟨rfl,by rw[hW1]⟩
set_option maxHeartbeats 4000000 in
set_option maxRecDepth 100000 in
theorem insS_end_room (b off n c o a m p:Nat) (vs:List Value) (w:World) (H:0<m) (g:n+m<=c) (B:c<=9223372036854775807)
  (f:vs.length=m*3) (t:∀ j,j<m*3->(w.cell? ⟨b,off+n*3+j,none⟩).isSome=true) (y:∀ j,j<m*3->w.frozen? ⟨b,off+n*3+j,none⟩=false)
  (x:∀ j v,vs[j]?=some v->w.cell? ⟨o,a+j,none⟩=some v) (z:∀ v∈vs,v.oneCell'=true) :
  Calls Tryz.prog 61 #[.slice (some ⟨b,off,none⟩) n c,.int .i64 n,.slice (some ⟨o,a,none⟩) m p] w λe w' =>
   e = .returned (.slice (some ⟨b,off,none⟩) (n+m) c)/\w'=w.setCells b (off+n*3) vs:=by
 have C:¬ ((m:Int)=0):=by omega
 have q:Tryz.prog.follows .mixedOrders=true:=by kernel_rfl
 have D:(Tryz.prog.info? 62).map (·.size)=some 3:=by kernel_rfl
 obtain ⟨A,r,E,d,F⟩:=info_parts (show (Tryz.prog.info? 62).map (λi=>(i.zero,i.size,i.bytes))=some (some (Value.agg #[.int .i64 0,.int .i64 0,.slice none 0 0]),3,40) from by kernel_rfl);have k:Src Tryz.prog A.size 26 (.slice (some ⟨o,a,none⟩) m p) m vs w:=by rw[d];exact Src.ofSlice w Tryz.underlying26 ⟨o,a,none⟩ m p vs f (λj u G=>by rw[Addr.add_lit];exact x j u G) z
 have l:∀ s,(Builtin.append_ #[26,26] s #[.slice (some ⟨b,off,none⟩) n c,.slice (some ⟨o,a,none⟩) m p]).run Tryz.prog w = .ok (.slice (some ⟨b,off,none⟩) (n+m) c) (w.setCells b (off+n*3) vs):=λs=>by have h:=run_append_room_src (P:=Tryz.prog) (w:=w) 26 26 s 62 A Tryz.underlying26 r b off n c _ m vs k g (by rw[f,d];exact t) (by rw[f,d];exact y);rw[d]at h;exact h
 go_enter Tryz.func61,Tryz.ntmps61;go_wp2_with (at_builtin;refine Lib.wpList_append_run _ rfl _ _ _ _ rfl _ _ rfl rfl _ _ (l _) ?_);go_ret;exact ⟨rfl,rfl⟩
set_option maxHeartbeats 4000000 in
set_option maxRecDepth 100000 in
theorem Qef (b:Option Addr) (n c p d m r:Nat) (cs vs:List Value) (w:World) (N:0<m) (K:n<=c) (f:c<n+m) (q:(n+m)*40<=140737488355328)
  (E:cs.length=n*3) (G:vs.length=m*3) (h:b=none->n=0)
  (F:∀ a,b=some a->∀ j v,cs[j]?=some v->w.cell? (a.add j)=some v)
  (D:∀ j v,vs[j]?=some v->w.cell? ⟨p,d+j,none⟩=some v) (H:∀ v∈vs,v.oneCell'=true) :
  Calls Tryz.prog 61 #[.slice b n c,.int .i64 n,.slice (some ⟨p,d,none⟩) m r] w λe w' =>
   e = .returned (.slice (some ⟨w.heap.size,0,none⟩) (n+m) (grownCap w (n+m) c 62)) /\
   w'=w.drew.alloc (.cells ((cs++vs).toArray++Builtin.zeroCells (Value.agg #[.int .i64 0,.int .i64 0,.slice none 0 0]).cells (grownCap w (n+m) c 62-(n+m))) 62):=by
 obtain ⟨x,y,z,o,A⟩:=info_parts (show (Tryz.prog.info? 62).map (λi=>(i.zero,i.size,i.bytes))=some (some (Value.agg #[.int .i64 0,.int .i64 0,.slice none 0 0]),3,40) from by kernel_rfl);have I:¬ ((m:Int)=0):=by omega
 have s:Tryz.prog.follows .mixedOrders=true:=by kernel_rfl
 have k:Src Tryz.prog x.size 26 (.slice (some ⟨p,d,none⟩) m r) m vs w:=by rw[o];exact Src.ofSlice w Tryz.underlying26 ⟨p,d,none⟩ m r vs G (λj u B=>by rw[Addr.add_lit];exact D j u B) H
 have l:(Builtin.firstCells x.size n (.slice b n c)).run Tryz.prog w.drew = .ok cs.toArray w.drew:=by
  rw[o];cases b with
  | none =>have t:=h rfl;subst t;rw[VA.1 (by omega:cs.length=0)];exact run_firstCells_none w.drew 3 0 0 c
  | some a=>exact run_firstCells_some w.drew 3 n a n c cs E (λj v B=>F a rfl j v B)
 have g:∀ C,(Builtin.append_ #[26,26] C #[.slice b n c,.slice (some ⟨p,d,none⟩) m r]).run Tryz.prog w=_:=λC =>
  run_append_grow_src w 26 26 C 62 x _ Tryz.underlying26 y z b n c cs l _ m vs k f Oo (by rw[A];exact growslice_fits f q)
 go_enter Tryz.func61,Tryz.ntmps61;cases b with
 | none =>have t:=h rfl;subst t;go_wp2_with (at_builtin;refine Lib.wpList_append_run _ rfl _ _ _ _ rfl _ _ rfl rfl _ _ (g _) ?_);go_ret;exact ⟨rfl,rfl⟩
 | some a =>obtain ⟨L,M,J⟩:=a;go_wp2_with (at_builtin;refine Lib.wpList_append_run _ rfl _ _ _ _ rfl _ _ rfl rfl _ _ (g _) ?_);all_goals (go_ret;exact ⟨rfl,rfl⟩)
set_option maxHeartbeats 4000000 in
set_option maxRecDepth 100000 in
theorem insS_grow (b off n c i r a m vc:Nat) (cs vs:List Value) (w:World) (hi:i<n) (hm:0<m) (aw:n<=c) (B:c<n+m) (J:(n+m)*40<=140737488355328)
  (z:cs.length=n*3) (ad:vs.length=m*3)
  (A:∀ j v,cs[j]?=some v->w.cell? ⟨b,off+j,none⟩=some v)
  (I:∀ j v,vs[j]?=some v->w.cell? ⟨r,a+j,none⟩=some v) (ac:∀ v∈cs,v.oneCell'=true) (ae:∀ v∈vs,v.oneCell'=true) :
  Calls Tryz.prog 61 #[.slice (some ⟨b,off,none⟩) n c,.int .i64 i,.slice (some ⟨r,a,none⟩) m vc] w λe w' =>
   e = .returned (.slice (some ⟨w.heap.size,0,none⟩) (n+m) (grownCap w (n+m) c 62)) /\
   w'=(((w.alloc (.cells ((cs.take (i*3)).toArray++Builtin.zeroCells (Value.agg #[.int .i64 0,.int .i64 0,.slice none 0 0]).cells (n+m-i)++Builtin.zeroCells (Value.agg #[.int .i64 0,.int .i64 0,.slice none 0 0]).cells (grownCap w (n+m) c 62-(n+m))) 62)).drew.setCells w.heap.size (i*3) vs).drew).setCells w.heap.size ((i+m)*3) (cs.drop (i*3)):=by
 obtain ⟨i0,Z,aa,ab,H⟩:=info_parts (show (Tryz.prog.info? 62).map (λi=>(i.zero,i.size,i.bytes))=some (some (Value.agg #[.int .i64 0,.int .i64 0,.slice none 0 0]),3,40) from by kernel_rfl);have ah:¬ ((m:Int)=0):=by omega
 have K:Tryz.prog.follows .mixedOrders=true:=by kernel_rfl
 have ai:¬ ((i:Int)=(n:Int)):=by omega
 have aj:(c:Int)<(n:Int)+(m:Int):=by omega
 have C:(Tryz.prog.info? 62).map (·.size)=some 3:=by kernel_rfl
 have L:b<w.heap.size:=block_lt_of_cell (A 0 _ (Wa Oo));have M:r<w.heap.size:=block_lt_of_cell (I 0 _ (Wa Oo));have D:(n:Int)+(m:Int)-(i:Int)=((n+m-i:Nat):Int):=by omega
 have s:i+(n+m-i)=n+m:=by omega
 have l:Nat.min (n-i) (n+m-(i+m))=n-i:=by simp only[U3];split <;> omega
 have o:Nat.min m (n+m-i)=m:=by simp only[U3];split <;> omega
 have p:(Builtin.firstCells i0.size i (.slice (some ⟨b,off,none⟩) i c)).run Tryz.prog w.drew = .ok (cs.take (i*3)).toArray w.drew:=by
  rw[ab];exact run_firstCells_some w.drew 3 i ⟨b,off,none⟩ i c (cs.take (i*3)) (by rw[Wf,z];omega) (λj v d=>by
   rw[Addr.add_lit]
   rw[WM]at d
   split at d
   ·exact A j v d
   ·cases d)
 have k:∀ f,(Builtin.append_ #[26,3] f #[.slice (some ⟨b,off,none⟩) i c,.int .i64 ((n:Int)+(m:Int)-(i:Int))]).run Tryz.prog w =
   .ok (.slice (some ⟨w.heap.size,0,none⟩) (n+m) (grownCap w (n+m) c 62)) (w.drew.alloc (.cells ((cs.take (i*3)).toArray++Builtin.zeroCells (Value.agg #[.int .i64 0,.int .i64 0,.slice none 0 0]).cells (n+m-i)++Builtin.zeroCells (Value.agg #[.int .i64 0,.int .i64 0,.slice none 0 0]).cells (grownCap w (n+m) c 62-(n+m))) 62)):=λf=>by
  have h:=Lib.run_append_grow_zeros w 26 3 f 62 i0 _ .i64 .i64 Tryz.underlying26 Tryz.underlying3 Z aa (some ⟨b,off,none⟩) i c (cs.take (i*3)) p (n+m-i) Oo Oo Oo Oo (by rw[H];omega) (by rw[H,s];exact growslice_fits B J)
  rw[s]at h
  rw[D]
  exact h
 obtain ⟨G,hG⟩:∃ G,G=grownCap w (n+m) c 62:=⟨_,rfl⟩;obtain ⟨ROW,hROW⟩:∃ ROW:Array Value,ROW=(cs.take (i*3)).toArray++Builtin.zeroCells (Value.agg #[.int .i64 0,.int .i64 0,.slice none 0 0]).cells (n+m-i)++Builtin.zeroCells (Value.agg #[.int .i64 0,.int .i64 0,.slice none 0 0]).cells (G-(n+m)):=⟨_,rfl⟩;rw[<- hG]at k ⊢;rw[<- hROW]at k ⊢;have N:(n+m)*3<=ROW.size:=by rw[hROW];simp[Builtin.zeroCells,Value.cells,U7,z];omega
 obtain ⟨W1,hW1⟩:∃ W1,W1=w.drew.alloc (.cells ROW 62):=⟨_,rfl⟩;rw[<- hW1]at k;have O:∀ j,j<(n+m)*3->(W1.cell? ⟨w.heap.size,j,none⟩).isSome=true:=λj d=>by rw[hW1,World.cell?_alloc_at (w:=w.drew) ROW _ w.heap.size j rfl,VW Oo];rfl
 have E:∀ j,W1.frozen? ⟨w.heap.size,j,none⟩=false:=λj=>by rw[hW1];exact World.frozen?_alloc_at (w:=w.drew) ROW _ w.heap.size j rfl
 have Q:∀ j v,w.cell? ⟨b,j,none⟩=some v->W1.cell? ⟨b,j,none⟩=some v:=λj v h=>by rw[hW1,World.cell?_alloc_past (w:=w.drew) _ b j L];exact h
 have R:∀ j v,w.cell? ⟨r,j,none⟩=some v->W1.cell? ⟨r,j,none⟩=some v:=λj v h=>by rw[hW1,World.cell?_alloc_past (w:=w.drew) _ r j M];exact h
 have F:∀ (W:World),(∀ x,W.cell? x=W1.cell? x)->(∀ x,W.frozen? x=W1.frozen? x)->∀ f y,(Builtin.copy_ #[26,26] f #[.slice (some ⟨w.heap.size,i*3,none⟩) (n+m-i) y,.slice (some ⟨r,a,none⟩) m vc]).run Tryz.prog W = .ok (goInt (m:Nat)) (W.setCells w.heap.size (i*3) vs):=λW g u f y=>by
  have h:=Q6 (P:=Tryz.prog) W 26 26 f 62 3 w.heap.size (i*3) (n+m-i) y ⟨r,a,none⟩ m vc vs Tryz.underlying26 C (by rw[ad,o])
   (λj v d=>by rw[Addr.add_lit,g];exact R _ v (I j v d))
   (λj d=>by rw[g];exact O _ Oo) (λj d=>by rw[u];exact E _) ae
  rwa [o]at h
 have ak:n+m<=G:=by rw[hG];exact grownCap_ge w _ _ _
 have af:G<=9223372036854775807:=by have:=grownCap_le_maxLen w (n+m) c 62 (by unfold maxLen;omega);rw[<- hG]at this;unfold maxLen at this;omega
 have al:¬ (G=i):=by omega
 have ag:¬ (G=i+m):=by omega
 have am:¬ (c=i):=by omega
 have S:b≠w.heap.size:=by omega
 have T:(cs.drop (i*3)).length=(n-i)*3:=by rw[Wv,z];omega
 have q:∀ (W:World),(∀ x,W.cell? x=(W1.setCells w.heap.size (i*3) vs).cell? x)->(∀ x,W.frozen? x=(W1.setCells w.heap.size (i*3) vs).frozen? x)->∀ f y sc,(Builtin.copy_ #[26,26] f #[.slice (some ⟨w.heap.size,(i+m)*3,none⟩) (n+m-(i+m)) y,.slice (some ⟨b,off+i*3,none⟩) (n-i) sc]).run Tryz.prog W = .ok (goInt (n-i:Nat)) (W.setCells w.heap.size ((i+m)*3) (cs.drop (i*3))):=λW g u f y sc=>by
  have h:=Q6 (P:=Tryz.prog) W 26 26 f 62 3 w.heap.size ((i+m)*3) (n+m-(i+m)) y ⟨b,off+i*3,none⟩ (n-i) sc (cs.drop (i*3)) Tryz.underlying26 C (by rw[T,l])
   (λj v d=>by
    rw[Addr.add_lit,g,World.cell?_setCells_out _ _ _ _ _ (λh _=>absurd h S),Vg]
    exact Q _ v (A (i*3+j) v (by rwa [WW]at d)))
   (λj d=>by rw[g];exact isSome_setCells _ _ _ _ (λt ht=>O _ Oo) _ (O _ Oo))
   (λj d=>by rw[u,World.frozen?_setCells];exact E _) (λv hv=>ac v (VV hv))
  rwa [l]at h
 subst hW1;have U:∀ x,((w.alloc (.cells ROW 62)).drew).cell? x=(w.drew.alloc (.cells ROW 62)).cell? x:=λx=>rfl;have V:∀ x,((w.alloc (.cells ROW 62)).drew).frozen? x=(w.drew.alloc (.cells ROW 62)).frozen? x:=λx=>rfl;have X:∀ x,(((w.alloc (.cells ROW 62)).drew.setCells w.heap.size (i*3) vs).drew).cell? x=((w.drew.alloc (.cells ROW 62)).setCells w.heap.size (i*3) vs).cell? x:=λx=>rfl;have Y:∀ x,(((w.alloc (.cells ROW 62)).drew.setCells w.heap.size (i*3) vs).drew).frozen? x=((w.drew.alloc (.cells ROW 62)).setCells w.heap.size (i*3) vs).frozen? x:=λx=>rfl;have an:IntKind.i64.wrap ((i:Int)+(m:Int))=(i:Int)+(m:Int):=by rw[IntKind.wrap_i64];omega
 have ao:(0:Int)<=(i:Int)+(m:Int):=by omega
 have ap:i<=n:=by omega
 have aq:((i:Int)+(m:Int)).toNat=i+m:=by omega
 have av:(i:Int)<=(n:Int):=by omega
 clear D s p hROW hG N;go_enter Tryz.func61,Tryz.ntmps61;go_wp2_with (first
  | (at_builtin;refine Lib.wpList_append_run _ rfl _ _ _ _ rfl _ _ rfl rfl _ _ (k _) ?_)
  | (at_builtin;refine wpList_copy_runI _ rfl _ _ 26 26 rfl _ _ rfl rfl (F _ U V _ _) ?_)
  | (at_builtin;refine wpList_copy_runI _ rfl _ _ 26 26 rfl _ _ rfl rfl (q _ (λ_=>rfl) (λ_=>rfl) _ _ _) ?_))
 go_region_law_o (refine step_copy_runI rfl _ _ 26 26 rfl (.slice (some ⟨w.heap.size,(i+m)*3,none⟩) (n+m-(i+m)) (G-(i+m))) (.slice (some ⟨b,off+i*3,none⟩) (n-i) (c-i)) (by simp[Act.eval,Act.put]) (by simp[Act.eval,Act.put]) (q _ X Y 3 (G-(i+m)) (c-i)) ?_);go_wp2;go_ret;exact ⟨rfl,rfl⟩
set_option maxHeartbeats 4000000 in
set_option maxRecDepth 100000 in
theorem insI_shift (b off n c i d a m A:Nat) (cs vs:List Value) (w:World) (hi:i<n) (hm:0<m) (M:n+m<=c) (Y:c<=9223372036854775807) (z:d≠b)
  (U:cs.length=n*1) (J:vs.length=m*1)
  (R:∀ j v,cs[j]?=some v->w.cell? ⟨b,off+j,none⟩=some v) (r:∀ j,j<(n+m)*1->(w.cell? ⟨b,off+j,none⟩).isSome=true) (B:∀ j,j<(n+m)*1->w.frozen? ⟨b,off+j,none⟩=false)
  (S:∀ j v,vs[j]?=some v->w.cell? ⟨d,a+j,none⟩=some v) (Q:∀ v∈cs,v.oneCell'=true) (K:∀ v∈vs,v.oneCell'=true)
  (Z tB:TypeId) (V X:Nat) (N:w.shape? d=some (Z,V)) (O:w.shape? b=some (tB,X)) (L:X≠0) (I:w.frozen? ⟨d,a,none⟩=false) (T:w.frozen? ⟨d,V,none⟩=false) :
  Calls Tryz.prog 63 #[.slice (some ⟨b,off,none⟩) n c,.int .i64 i,.slice (some ⟨d,a,none⟩) m A] w λe w' =>
   e = .returned (.slice (some ⟨b,off,none⟩) (n+m) c)/\w'=(w.drew.setCells b (off+(i+m)) (cs.drop (i))).setCells b (off+i) vs:=by
 have aa:¬ ((m:Int)=0):=by omega
 have C:Tryz.prog.follows .mixedOrders=true:=by kernel_rfl
 have ab:¬ ((i:Int)=(n:Int)):=by omega
 have s:(Tryz.prog.info? 3).map (·.size)=some 1:=by kernel_rfl
 have D:∀ F cb,(callFunc 93 #[.slice (some ⟨d,a,none⟩) m A,.slice (some ⟨b,off+(i+m),none⟩) F cb]).run Tryz.prog w = .ok (.value (.bool false)) w:=λF cb=>by
  rw[run_callFunc_extern Tryz.func93 Ok Ok Ok (e:=Extern.SlicesOverlaps.overlaps #[28,28] #[4]) Ok,
   Lib.run_overlaps_apart w 28 4 3 Tryz.underlying28 1 Tryz.sizeOf3 ⟨d,a,none⟩ ⟨b,off+(i+m),none⟩ m A F cb z Z tB V X N O L I T]
  rfl
 have E:(cs.drop (i)).length=(n-i)*1:=by rw[Wv,U];omega
 have ac:IntKind.i64.wrap ((i:Int)+(m:Int))=(i:Int)+(m:Int):=by rw[IntKind.wrap_i64];omega
 have ad:(0:Int)<=(i:Int)+(m:Int):=by omega
 have ae:i<=n:=by omega
 have af:((i:Int)+(m:Int)).toNat=i+m:=by omega
 have ag:¬ (c=i+m):=by omega
 have ah:(i:Int)<=(n:Int)+(m:Int):=by omega
 have ai:¬ (c=i):=by omega
 have f:Nat.min (n+m-i) (n+m-(i+m))=n-i:=by simp only[U3];split <;> omega
 have g:Nat.min m (n+m-i)=m:=by simp only[U3];split <;> omega
 have l:∀ p q G,(Builtin.copy_ #[28,28] p #[.slice (some ⟨b,off+(i+m),none⟩) (n+m-(i+m)) q,.slice (some ⟨b,off+i,none⟩) (n+m-i) G]).run Tryz.prog w.drew = .ok (goInt (n-i:Nat)) (w.drew.setCells b (off+(i+m)) (cs.drop (i))):=λp q G=>by
  rw[<- f];exact Q6 w.drew _ _ p 3 1 b (off+(i+m)) (n+m-(i+m)) q ⟨b,off+i,none⟩ (n+m-i) G (cs.drop (i)) Tryz.underlying28 s (by rw[E,f])
   (λj v o=>by rw[Addr.add_lit,Vg];exact R (i+j) v (by rwa [WW]at o))
   (λj o=>by rw[Vg];exact r _ Oo) (λj o=>by rw[Vg];exact B _ Oo) (λv hv=>Q v (VV hv))
 obtain ⟨W1,hW1⟩:∃ W1,W1=w.drew.setCells b (off+(i+m)) (cs.drop (i)):=⟨_,rfl⟩;have t:∀ k,k<(n+m)*1->(W1.cell? ⟨b,off+k,none⟩).isSome=true:=λk hk=>by rw[hW1];exact isSome_setCells b _ _ _ (λj o=>by rw[Vg];exact r _ Oo) _ (r k hk)
 have u:∀ (W:World),(∀ x,W.cell? x=W1.cell? x)->(∀ x,W.frozen? x=W1.frozen? x)->∀ p q,(Builtin.copy_ #[28,28] p #[.slice (some ⟨b,off+i,none⟩) (n+m-i) q,.slice (some ⟨d,a,none⟩) m A]).run Tryz.prog W = .ok (goInt (m:Nat)) (W.setCells b (off+i) vs):=λW y H p q=>by
  have h:=Q6 (P:=Tryz.prog) W 28 28 p 3 1 b (off+i) (n+m-i) q ⟨d,a,none⟩ m A vs Tryz.underlying28 s (by rw[J,g])
   (λj v o=>by
    rw[Addr.add_lit,y,hW1,World.cell?_setCells_out b _ _ _ _ (λh _=>absurd h z)]
    exact S j v o)
   (λj o=>by rw[y,Vg];exact t _ Oo) (λj o=>by rw[H,hW1,World.frozen?_setCells,Vg];exact B _ Oo) K
  rwa [g]at h
 rw[<- hW1]at l;go_enter Tryz.func63,Tryz.ntmps63;go_wp2_with (simp only[D]);go_region_law_o (refine step_copy_runI rfl _ _ 28 28 rfl _ _ (by simp[Act.eval,Act.put]) (by simp[Act.eval,Act.put]) (l _ _ _) ?_);go_wp2_with (at_builtin;refine wpList_copy_runI _ rfl _ _ 28 28 rfl _ _ rfl rfl (u _ (λ_=>rfl) (λ_=>rfl) _ _) ?_);go_ret;first | exact ⟨rfl,rfl⟩ | exact ⟨rfl,by rw[hW1]⟩
set_option maxHeartbeats 4000000 in
set_option maxRecDepth 100000 in
theorem insI_end_room (b off n c o a m p:Nat) (vs:List Value) (w:World) (H:0<m) (g:n+m<=c) (B:c<=9223372036854775807)
  (f:vs.length=m*1) (t:∀ j,j<m*1->(w.cell? ⟨b,off+n+j,none⟩).isSome=true) (y:∀ j,j<m*1->w.frozen? ⟨b,off+n+j,none⟩=false)
  (x:∀ j v,vs[j]?=some v->w.cell? ⟨o,a+j,none⟩=some v) (z:∀ v∈vs,v.oneCell'=true) :
  Calls Tryz.prog 63 #[.slice (some ⟨b,off,none⟩) n c,.int .i64 n,.slice (some ⟨o,a,none⟩) m p] w λe w' =>
   e = .returned (.slice (some ⟨b,off,none⟩) (n+m) c)/\w'=w.setCells b (off+n) vs:=by
 have C:¬ ((m:Int)=0):=by omega
 have q:Tryz.prog.follows .mixedOrders=true:=by kernel_rfl
 have D:(Tryz.prog.info? 3).map (·.size)=some 1:=by kernel_rfl
 obtain ⟨A,r,E,d,F⟩:=info_parts (show (Tryz.prog.info? 3).map (λi=>(i.zero,i.size,i.bytes))=some (some (Value.int .i64 0),1,8) from by kernel_rfl);have k:Src Tryz.prog A.size 28 (.slice (some ⟨o,a,none⟩) m p) m vs w:=by rw[d];exact Src.ofSlice w Tryz.underlying28 ⟨o,a,none⟩ m p vs f (λj u G=>by rw[Addr.add_lit];exact x j u G) z
 have l:∀ s,(Builtin.append_ #[28,28] s #[.slice (some ⟨b,off,none⟩) n c,.slice (some ⟨o,a,none⟩) m p]).run Tryz.prog w = .ok (.slice (some ⟨b,off,none⟩) (n+m) c) (w.setCells b (off+n) vs):=λs=>by have h:=run_append_room_src (P:=Tryz.prog) (w:=w) 28 28 s 3 A Tryz.underlying28 r b off n c _ m vs k g (by rw[f,d];simpa using t) (by rw[f,d];simpa using y);rw[d,YG]at h;exact h
 go_enter Tryz.func63,Tryz.ntmps63;go_wp2_with (at_builtin;refine Lib.wpList_append_run _ rfl _ _ _ _ rfl _ _ rfl rfl _ _ (l _) ?_);go_ret;exact ⟨rfl,rfl⟩
set_option maxHeartbeats 4000000 in
set_option maxRecDepth 100000 in
theorem Qeg (b:Option Addr) (n c p d m r:Nat) (cs vs:List Value) (w:World) (N:0<m) (K:n<=c) (f:c<n+m) (q:(n+m)*8<=140737488355328)
  (E:cs.length=n*1) (G:vs.length=m*1) (h:b=none->n=0)
  (F:∀ a,b=some a->∀ j v,cs[j]?=some v->w.cell? (a.add j)=some v)
  (D:∀ j v,vs[j]?=some v->w.cell? ⟨p,d+j,none⟩=some v) (H:∀ v∈vs,v.oneCell'=true) :
  Calls Tryz.prog 63 #[.slice b n c,.int .i64 n,.slice (some ⟨p,d,none⟩) m r] w λe w' =>
   e = .returned (.slice (some ⟨w.heap.size,0,none⟩) (n+m) (grownCap w (n+m) c 3)) /\
   w'=w.drew.alloc (.cells ((cs++vs).toArray++Builtin.zeroCells (Value.int .i64 0).cells (grownCap w (n+m) c 3-(n+m))) 3):=by
 obtain ⟨x,y,z,o,A⟩:=info_parts (show (Tryz.prog.info? 3).map (λi=>(i.zero,i.size,i.bytes))=some (some (Value.int .i64 0),1,8) from by kernel_rfl);have I:¬ ((m:Int)=0):=by omega
 have s:Tryz.prog.follows .mixedOrders=true:=by kernel_rfl
 have k:Src Tryz.prog x.size 28 (.slice (some ⟨p,d,none⟩) m r) m vs w:=by rw[o];exact Src.ofSlice w Tryz.underlying28 ⟨p,d,none⟩ m r vs G (λj u B=>by rw[Addr.add_lit];exact D j u B) H
 have l:(Builtin.firstCells x.size n (.slice b n c)).run Tryz.prog w.drew = .ok cs.toArray w.drew:=by
  rw[o];cases b with
  | none =>have t:=h rfl;subst t;rw[VA.1 (by omega:cs.length=0)];exact run_firstCells_none w.drew 1 0 0 c
  | some a=>exact run_firstCells_some w.drew 1 n a n c cs E (λj v B=>F a rfl j v B)
 have g:∀ C,(Builtin.append_ #[28,28] C #[.slice b n c,.slice (some ⟨p,d,none⟩) m r]).run Tryz.prog w=_:=λC =>
  run_append_grow_src w 28 28 C 3 x _ Tryz.underlying28 y z b n c cs l _ m vs k f Oo (by rw[A];exact growslice_fits f q)
 go_enter Tryz.func63,Tryz.ntmps63;cases b with
 | none =>have t:=h rfl;subst t;go_wp2_with (at_builtin;refine Lib.wpList_append_run _ rfl _ _ _ _ rfl _ _ rfl rfl _ _ (g _) ?_);go_ret;exact ⟨rfl,rfl⟩
 | some a =>obtain ⟨L,M,J⟩:=a;go_wp2_with (at_builtin;refine Lib.wpList_append_run _ rfl _ _ _ _ rfl _ _ rfl rfl _ _ (g _) ?_);all_goals (go_ret;exact ⟨rfl,rfl⟩)
set_option maxHeartbeats 4000000 in
set_option maxRecDepth 100000 in
theorem insI_grow (b off n c i r a m vc:Nat) (cs vs:List Value) (w:World) (hi:i<n) (hm:0<m) (aw:n<=c) (B:c<n+m) (J:(n+m)*8<=140737488355328)
  (z:cs.length=n*1) (ad:vs.length=m*1)
  (A:∀ j v,cs[j]?=some v->w.cell? ⟨b,off+j,none⟩=some v)
  (I:∀ j v,vs[j]?=some v->w.cell? ⟨r,a+j,none⟩=some v) (ac:∀ v∈cs,v.oneCell'=true) (ae:∀ v∈vs,v.oneCell'=true) :
  Calls Tryz.prog 63 #[.slice (some ⟨b,off,none⟩) n c,.int .i64 i,.slice (some ⟨r,a,none⟩) m vc] w λe w' =>
   e = .returned (.slice (some ⟨w.heap.size,0,none⟩) (n+m) (grownCap w (n+m) c 3)) /\
   w'=(((w.alloc (.cells ((cs.take (i)).toArray++Builtin.zeroCells (Value.int .i64 0).cells (n+m-i)++Builtin.zeroCells (Value.int .i64 0).cells (grownCap w (n+m) c 3-(n+m))) 3)).drew.setCells w.heap.size (i) vs).drew).setCells w.heap.size ((i+m)) (cs.drop (i)):=by
 obtain ⟨i0,Z,aa,ab,H⟩:=info_parts (show (Tryz.prog.info? 3).map (λi=>(i.zero,i.size,i.bytes))=some (some (Value.int .i64 0),1,8) from by kernel_rfl);have ah:¬ ((m:Int)=0):=by omega
 have K:Tryz.prog.follows .mixedOrders=true:=by kernel_rfl
 have ai:¬ ((i:Int)=(n:Int)):=by omega
 have aj:(c:Int)<(n:Int)+(m:Int):=by omega
 have C:(Tryz.prog.info? 3).map (·.size)=some 1:=by kernel_rfl
 have L:b<w.heap.size:=block_lt_of_cell (A 0 _ (Wa Oo));have M:r<w.heap.size:=block_lt_of_cell (I 0 _ (Wa Oo));have D:(n:Int)+(m:Int)-(i:Int)=((n+m-i:Nat):Int):=by omega
 have s:i+(n+m-i)=n+m:=by omega
 have l:Nat.min (n-i) (n+m-(i+m))=n-i:=by simp only[U3];split <;> omega
 have o:Nat.min m (n+m-i)=m:=by simp only[U3];split <;> omega
 have p:(Builtin.firstCells i0.size i (.slice (some ⟨b,off,none⟩) i c)).run Tryz.prog w.drew = .ok (cs.take (i)).toArray w.drew:=by
  rw[ab];exact run_firstCells_some w.drew 1 i ⟨b,off,none⟩ i c (cs.take (i)) (by rw[Wf,z];omega) (λj v d=>by
   rw[Addr.add_lit]
   rw[WM]at d
   split at d
   ·exact A j v d
   ·cases d)
 have k:∀ f,(Builtin.append_ #[28,3] f #[.slice (some ⟨b,off,none⟩) i c,.int .i64 ((n:Int)+(m:Int)-(i:Int))]).run Tryz.prog w =
   .ok (.slice (some ⟨w.heap.size,0,none⟩) (n+m) (grownCap w (n+m) c 3)) (w.drew.alloc (.cells ((cs.take (i)).toArray++Builtin.zeroCells (Value.int .i64 0).cells (n+m-i)++Builtin.zeroCells (Value.int .i64 0).cells (grownCap w (n+m) c 3-(n+m))) 3)):=λf=>by
  have h:=Lib.run_append_grow_zeros w 28 3 f 3 i0 _ .i64 .i64 Tryz.underlying28 Tryz.underlying3 Z aa (some ⟨b,off,none⟩) i c (cs.take (i)) p (n+m-i) Oo Oo Oo Oo (by rw[H];omega) (by rw[H,s];exact growslice_fits B J)
  rw[s]at h
  rw[D]
  exact h
 obtain ⟨G,hG⟩:∃ G,G=grownCap w (n+m) c 3:=⟨_,rfl⟩;obtain ⟨ROW,hROW⟩:∃ ROW:Array Value,ROW=(cs.take (i)).toArray++Builtin.zeroCells (Value.int .i64 0).cells (n+m-i)++Builtin.zeroCells (Value.int .i64 0).cells (G-(n+m)):=⟨_,rfl⟩;rw[<- hG]at k ⊢;rw[<- hROW]at k ⊢;have N:(n+m)*1<=ROW.size:=by rw[hROW];simp[Builtin.zeroCells,Value.cells,U7,z];omega
 obtain ⟨W1,hW1⟩:∃ W1,W1=w.drew.alloc (.cells ROW 3):=⟨_,rfl⟩;rw[<- hW1]at k;have O:∀ j,j<(n+m)*1->(W1.cell? ⟨w.heap.size,j,none⟩).isSome=true:=λj d=>by rw[hW1,World.cell?_alloc_at (w:=w.drew) ROW _ w.heap.size j rfl,VW Oo];rfl
 have E:∀ j,W1.frozen? ⟨w.heap.size,j,none⟩=false:=λj=>by rw[hW1];exact World.frozen?_alloc_at (w:=w.drew) ROW _ w.heap.size j rfl
 have Q:∀ j v,w.cell? ⟨b,j,none⟩=some v->W1.cell? ⟨b,j,none⟩=some v:=λj v h=>by rw[hW1,World.cell?_alloc_past (w:=w.drew) _ b j L];exact h
 have R:∀ j v,w.cell? ⟨r,j,none⟩=some v->W1.cell? ⟨r,j,none⟩=some v:=λj v h=>by rw[hW1,World.cell?_alloc_past (w:=w.drew) _ r j M];exact h
 have F:∀ (W:World),(∀ x,W.cell? x=W1.cell? x)->(∀ x,W.frozen? x=W1.frozen? x)->∀ f y,(Builtin.copy_ #[28,28] f #[.slice (some ⟨w.heap.size,i,none⟩) (n+m-i) y,.slice (some ⟨r,a,none⟩) m vc]).run Tryz.prog W = .ok (goInt (m:Nat)) (W.setCells w.heap.size (i) vs):=λW g u f y=>by
  have h:=Q6 (P:=Tryz.prog) W 28 28 f 3 1 w.heap.size (i) (n+m-i) y ⟨r,a,none⟩ m vc vs Tryz.underlying28 C (by rw[ad,o])
   (λj v d=>by rw[Addr.add_lit,g];exact R _ v (I j v d))
   (λj d=>by rw[g];exact O _ Oo) (λj d=>by rw[u];exact E _) ae
  rwa [o]at h
 have ak:n+m<=G:=by rw[hG];exact grownCap_ge w _ _ _
 have af:G<=9223372036854775807:=by have:=grownCap_le_maxLen w (n+m) c 3 (by unfold maxLen;omega);rw[<- hG]at this;unfold maxLen at this;omega
 have al:¬ (G=i):=by omega
 have ag:¬ (G=i+m):=by omega
 have am:¬ (c=i):=by omega
 have S:b≠w.heap.size:=by omega
 have T:(cs.drop (i)).length=(n-i)*1:=by rw[Wv,z];omega
 have q:∀ (W:World),(∀ x,W.cell? x=(W1.setCells w.heap.size (i) vs).cell? x)->(∀ x,W.frozen? x=(W1.setCells w.heap.size (i) vs).frozen? x)->∀ f y sc,(Builtin.copy_ #[28,28] f #[.slice (some ⟨w.heap.size,(i+m),none⟩) (n+m-(i+m)) y,.slice (some ⟨b,off+i,none⟩) (n-i) sc]).run Tryz.prog W = .ok (goInt (n-i:Nat)) (W.setCells w.heap.size ((i+m)) (cs.drop (i))):=λW g u f y sc=>by
  have h:=Q6 (P:=Tryz.prog) W 28 28 f 3 1 w.heap.size ((i+m)) (n+m-(i+m)) y ⟨b,off+i,none⟩ (n-i) sc (cs.drop (i)) Tryz.underlying28 C (by rw[T,l])
   (λj v d=>by
    rw[Addr.add_lit,g,World.cell?_setCells_out _ _ _ _ _ (λh _=>absurd h S),Vg]
    exact Q _ v (A (i+j) v (by rwa [WW]at d)))
   (λj d=>by rw[g];exact isSome_setCells _ _ _ _ (λt ht=>O _ Oo) _ (O _ Oo))
   (λj d=>by rw[u,World.frozen?_setCells];exact E _) (λv hv=>ac v (VV hv))
  rwa [l]at h
 subst hW1;have U:∀ x,((w.alloc (.cells ROW 3)).drew).cell? x=(w.drew.alloc (.cells ROW 3)).cell? x:=λx=>rfl;have V:∀ x,((w.alloc (.cells ROW 3)).drew).frozen? x=(w.drew.alloc (.cells ROW 3)).frozen? x:=λx=>rfl;have X:∀ x,(((w.alloc (.cells ROW 3)).drew.setCells w.heap.size (i) vs).drew).cell? x=((w.drew.alloc (.cells ROW 3)).setCells w.heap.size (i) vs).cell? x:=λx=>rfl;have Y:∀ x,(((w.alloc (.cells ROW 3)).drew.setCells w.heap.size (i) vs).drew).frozen? x=((w.drew.alloc (.cells ROW 3)).setCells w.heap.size (i) vs).frozen? x:=λx=>rfl;have an:IntKind.i64.wrap ((i:Int)+(m:Int))=(i:Int)+(m:Int):=by rw[IntKind.wrap_i64];omega
 have ao:(0:Int)<=(i:Int)+(m:Int):=by omega
 have ap:i<=n:=by omega
 have aq:((i:Int)+(m:Int)).toNat=i+m:=by omega
 have av:(i:Int)<=(n:Int):=by omega
 clear D s p hROW hG N;go_enter Tryz.func63,Tryz.ntmps63;go_wp2_with (first
  | (at_builtin;refine Lib.wpList_append_run _ rfl _ _ _ _ rfl _ _ rfl rfl _ _ (k _) ?_)
  | (at_builtin;refine wpList_copy_runI _ rfl _ _ 28 28 rfl _ _ rfl rfl (F _ U V _ _) ?_)
  | (at_builtin;refine wpList_copy_runI _ rfl _ _ 28 28 rfl _ _ rfl rfl (q _ (λ_=>rfl) (λ_=>rfl) _ _ _) ?_))
 go_region_law_o (refine step_copy_runI rfl _ _ 28 28 rfl (.slice (some ⟨w.heap.size,(i+m),none⟩) (n+m-(i+m)) (G-(i+m))) (.slice (some ⟨b,off+i,none⟩) (n-i) (c-i)) (by simp[Act.eval,Act.put]) (by simp[Act.eval,Act.put]) (q _ X Y 3 (G-(i+m)) (c-i)) ?_);go_wp2;go_ret;exact ⟨rfl,rfl⟩
open Go.RowKit Go.Shelf
theorem Qau{w:World}{g o:Nat}{cs:Array Value}{T:TypeId}(h:w.heap[g]?=some (.cells cs T (0,0))):w.cell? ⟨g,o,none⟩=cs[o]?:=cell_of_row w g o cs T (0,0) h
theorem XO{w:World}{g o:Nat}{cs:Array Value}{T:TypeId}(h:w.heap[g]?=some (.cells cs T (0,0))):w.frozen? ⟨g,o,none⟩=false:=by unfold World.frozen?;rw[show w.heap[(⟨g,o,none⟩:Addr).block]?=some (.cells cs T (0,0)) from h];simp
theorem setCell_block{w:World}{g o:Nat}{cs:Array Value}{T:TypeId}(h:w.heap[g]?=some (.cells cs T (0,0)))(v:Value):(w.setCell ⟨g,o,none⟩ v).heap[g]?=some (.cells (cs.setIfInBounds o v) T (0,0)):=by unfold World.setCell;simp only[YY,if_true,h,Wx];rfl
theorem grown_refl(w:World)(row:Option Nat):w.grownBy w row:=⟨rfl,rfl,rfl,Wl _,λ_ _ _=>rfl⟩
theorem QD{a b c:World}{row:Option Nat}(h:a.grownBy b row)(k:b.grownBy c row):a.grownBy c row :=
 ⟨k.os.trans h.os,k.tape.trans h.tape,k.output.trans h.output,Ub h.size k.size,λi d e=>(k.block i (Vp d h.size) e).trans (h.block i d e)⟩
theorem Jq{row:Option Nat}(W:World):W.grownBy W.drew row:=⟨rfl,rfl,rfl,Wl _,λ_ _ _=>rfl⟩
theorem grown_setCell'(w:World)(a:Addr)(u:Value):w.grownBy (w.setCell a u) (some a.block) :=
 ⟨rfl,rfl,rfl,by simp[World.setCell],λk _ b=>by
  unfold World.setCell
  rw[YY]
  rw[if_neg (λe=>b (by rw[e]))]⟩
theorem Qr(g:Nat):∀ (vs:List Value) (o:Nat) (w:World),w.grownBy (w.setCells g o vs) (some g)
 | [],_,w=>grown_refl w _
 | v :: r,o,w=>QD (grown_setCell' w ⟨g,o,none⟩ v) (Qr g r (o+1) _)
theorem Zj{g T:Nat}:∀ (vs:List Value) (o:Nat) (w:World) (cur:Array Value),w.heap[g]?=some (.cells cur T (0,0))->o+vs.length<=cur.size ->
  ∃ cur',(w.setCells g o vs).heap[g]?=some (.cells cur' T (0,0))/\cur'.toList=cur.toList.take o++vs++cur.toList.drop (o+vs.length)
 | [],o,w,cur,h,_=>⟨cur,h,Os⟩
 | v :: r,o,w,cur,h,hl=>by obtain ⟨cur',a,b⟩:=Zj r (o+1) (w.setCell ⟨g,o,none⟩ v) (cur.setIfInBounds o v) (setCell_block h v) (by simp at hl ⊢;omega);refine ⟨cur',a,?_⟩;rw[b,Yz];exact list_seg_step cur.toList o v r (by simp at hl ⊢;omega)
theorem splice2{L C vs D:List Value}{a k m:Nat}(d:L.take m=C)(f:a<=m)(h:m+k<=L.length)(e:vs.length=k)(g:D=C.drop a) :
  (((L.take (a+k)++D++L.drop (a+k+D.length)).take a++vs++(L.take (a+k)++D++L.drop (a+k+D.length)).drop (a+vs.length))).take (m+k)=C.take a++vs++C.drop a:=by
 subst d g;have b:(L.take (a+k)++(L.take m).drop a++L.drop (a+k+((L.take m).drop a).length)).take a=L.take a:=by rw[WI,WU (by rw[Wf];omega),U4,W5 Oo]
 have c:(L.take (a+k)++(L.take m).drop a++L.drop (a+k+((L.take m).drop a).length)).drop (a+vs.length)=(L.take m).drop a++L.drop (a+k+((L.take m).drop a).length):=by rw[e,WI,List.drop_append_of_le_length (by rw[Wf];omega),Vx (by rw[Wf];omega),V3]
 rw[b,c,U4,W5 f,<- WI];rw[WU (by simp;omega),WD (by simp;omega)]
theorem splice3{L A vs D:List Value}{a k m:Nat}(c:L.take a=A)(f:a<=m)(d:m+k<=L.length)(e:vs.length=k)(g:D.length=m-a) :
  (((L.take a++vs++L.drop (a+vs.length)).take (a+k)++D++(L.take a++vs++L.drop (a+vs.length)).drop (a+k+D.length))).take (m+k)=A++vs++D:=by
 subst c;have b:(L.take a++vs++L.drop (a+vs.length)).take (a+k)=L.take a++vs:=by rw[WU (by simp;omega),WD (by simp;omega)]
 rw[b,WU (by simp;omega),WD (by simp;omega)]
theorem QbC{a b c:Nat}(h:b=c)(k:a<=c):a<=b:=by omega
theorem Zh(cs:Array Value)(n:Nat):(Builtin.zeroCells cs n).size=n*cs.size:=by simp[Builtin.zeroCells]
theorem QaH{w:World}{row:Option Nat}{o:Obj}:w.grownBy (w.alloc o) row :=
 ⟨rfl,rfl,rfl,Os,λk a _=>by
  change (w.heap.push o)[k]?=_
  rw[Array.getElem?_push,if_neg (Nat.ne_of_lt a)]⟩
set_option maxHeartbeats 2000000 in
theorem insI_raw{w:World}{n i:Nat}{v vv:Value}{g0:Option (Nat×Nat)}{C vs:List Value}
  (hs:(∃ g cap cur T,g0=some (g,cap)/\v = .slice (some ⟨g,0,none⟩) n cap/\n<=cap/\cap<=maxLen/\w.heap[g]?=some (.cells cur T (0,0))/\cur.size=cap*1/\C=cur.toList.take (n*1))\/(g0=none/\v = .slice none 0 0/\n=0/\C=[]))
  (hv:∃ vb vc cv Tv,vv = .slice (some ⟨vb,0,none⟩) 1 vc/\w.heap[vb]?=some (.cells cv Tv (0,0))/\cv.size=vc*1/\1<=vc/\vs=cv.toList.take 1/\∀ c,g0≠some (vb,c))
  (X:∀ u∈C,u.oneCell'=true)(y:∀ u∈vs,u.oneCell'=true)(hi:i<=n)(hb:(n+1)*8<=140737488355328) :
  Calls Tryz.prog 63 #[v,.int .i64 i,vv] w λe w'=>∃ g' cap' cur' T',e = .returned (.slice (some ⟨g',0,none⟩) (n+1) cap')/\w'.os=w.os/\w'.tape=w.tape/\w'.output=w.output/\w.heap.size<=w'.heap.size /\
   (∀ j,j<w.heap.size->(∀ c,g0≠some (j,c))->w'.heap[j]?=w.heap[j]?)/\((∃ c',g0=some (g',c'))\/(w.heap.size<=g'/\g' < w'.heap.size))/\n+1<=cap'/\cap'<=maxLen/\w'.heap[g']?=some (.cells cur' T' (0,0))/\cur'.size=cap' * 1/\cur'.toList.take ((n+1)*1)=C.take (i*1)++vs++C.drop (i*1):=by
 obtain ⟨vb,vc,cv,Tv,rfl,B,U,aj,rfl,ae⟩:=hv;have b:(cv.toList.take 1).length=1*1:=by rw[Wf,Wt,U];omega
 generalize hVS:cv.toList.take 1=vs at *;have s:∀ j u,vs[j]?=some u->w.cell? ⟨vb,0+j,none⟩=some u:=λj u h=>by
  rw[W0,Qau B];rw[<- hVS,WM]at h;split at h
  ·simpa using h
  ·cases h
 rcases hs with ⟨g,cap,cur,T,rfl,rfl,hc,hm,K,hs,H⟩ | ⟨rfl,rfl,rfl,rfl⟩
 ·have M:C.length=n*1:=by rw[H,Wf,Wt,hs];have:=Wy 1 hc;omega
  have H:=H.symm;have ag:C.length<=cur.toList.length:=by rw[<- H,Wf];omega
  have N:vb≠g:=λe=>ae cap (by rw[e]);have ah:g<w.heap.size:=(VL.1 K).1;have I:∀ j u,C[j]?=some u->w.cell? ⟨g,0+j,none⟩=some u:=λj u h=>by
   rw[W0,Qau K];rw[<- H,WM]at h;split at h
   ·simpa using h
   ·cases h
  have q:cap<=9223372036854775807:=by unfold maxLen at hm;omega
  have O:∀ j,j<(n+1)*1->n+1<=cap->(w.cell? ⟨g,0+j,none⟩).isSome=true:=λj x hr=>by rw[W0,Qau K,VW Oo];rfl
  have P:∀ j,w.frozen? ⟨g,j,none⟩=false:=λj=>XO K;have t:∀ {w':World},w.grownBy w' (some g)->∀ j,j<w.heap.size->(∀ c,some (g,cap)≠some (j,c))->w'.heap[j]?=w.heap[j]?:=λh j x hn=>h.block j x (λe=>by injection e with e;exact hn cap (by rw[e]));by_cases af:i=n
  ·subst af;by_cases d:i+1<=cap
   ·refine (insI_end_room g 0 i cap vb 0 1 vc vs w Oo d q b (λj x=>by rw[Vg];exact O _ Oo d) (λj x=>P _) s y).mono ?_;rintro e w' ⟨rfl,rfl⟩;obtain ⟨cur',V,F⟩:=Zj (T:=T) vs (0+i) w cur K (by rw[b];omega);have f:=Qr g vs (0+i) w;have Q:cur'.size=cap*1:=by have:=congrArg List.length F;simp only[Wt,We,Wf,Wv]at this;omega
    refine ⟨g,cap,cur',T,rfl,f.os,f.tape,f.output,f.size,t f,.inl ⟨_,rfl⟩,d,hm,V,Q,?_⟩;have Z:cur.toList.take (i)=C:=by simpa using H
    have e1:C.drop (i)=[]:=Vx Oo;have e2:C.take (i)=C:=WD Oo;rw[F,W0,show (i+1)*1=i+1 by omega,show i*1=i by omega,Z,e2,e1,W6];rw[WU (by rw[We,b];omega),WD (by rw[We,b];omega)]
   ·refine (Qeg (some ⟨g,0,none⟩) i cap vb 0 1 vc C vs w Oo hc Oo hb M b (λe=>by cases e) (λa e j u h=>by
     injection e with e
     subst e
     rw[Addr.add_lit]
     exact I j u h) s y).mono ?_
    rintro e w' ⟨rfl,rfl⟩;have r:=grownCap_ge w (i+1) cap 3;have f:=QD (Jq w) (QaH (w:=w.drew) (row:=some g) (o:=.cells ((C++vs).toArray++Builtin.zeroCells (Value.int .i64 0).cells (grownCap w (i+1) cap 3-(i+1))) 3));refine ⟨w.heap.size,_,_,_,rfl,rfl,rfl,rfl,f.size,t f,.inr ⟨Wl _,Os⟩,r,grownCap_le_maxLen w _ _ _ (by unfold maxLen;omega),heap_alloc_new _ _,?_,?_⟩
    ·rw[VY,Zh,show (Value.int .i64 0).cells.size=1 from rfl];simp only[Vq,We,b,M];omega
    ·rw[VX,WU (by simp only[We,b,M];omega)];simp only[];rw[WD (by simp only[We,b,M];omega),WD Oo,Vx Oo,W6]
  ·have E:i<n:=by omega
   by_cases d:n+1<=cap
   ·have aa:cur.size≠0:=by omega
    refine (insI_shift g 0 n cap i vb 0 1 vc C vs w E Oo d q N M b I (λj x=>O j x d) (λj x=>P _) s X y Tv T cv.size cur.size (by simp[World.shape?,B]) (by simp[World.shape?,K]) aa (XO B) (XO B)).mono ?_;rintro e w' ⟨rfl,rfl⟩;obtain ⟨l,V,F⟩:=Zj (T:=T) (C.drop (i)) (0+(i+1)) w.drew cur K (by rw[Wv];omega);have ab:l.size=cap*1:=by have:=congrArg List.length F;simp only[Wt,We,Wf,Wv]at this;omega
    obtain ⟨p,Y,W⟩:=Zj (T:=T) vs (0+i) _ l V (by rw[b];omega);have J:p.size=cap*1:=by have:=congrArg List.length W;simp only[Wt,We,Wf,Wv]at this;omega
    have f:w.grownBy ((w.drew.setCells g (0+(i+1)) (C.drop (i))).setCells g (0+i) vs) (some g):=QD (Jq w) (QD (Qr g _ _ w.drew) (Qr g _ _ _));refine ⟨g,cap,p,T,rfl,f.os,f.tape,f.output,f.size,t f,.inl ⟨_,rfl⟩,d,hm,Y,J,?_⟩;have:=splice2 (L:=cur.toList) (C:=C) (vs:=vs) (D:=C.drop (i)) (a:=i) (k:=1) (m:=n) (by simpa using H) Oo (QbC (Wt (xs:=cur)) Oo) (b.trans rfl) rfl;rw[W,F,W0,W0,show (n+1)*1=n+1 by omega,show i*1=i by omega];exact this
   ·refine (insI_grow g 0 n cap i vb 0 1 vc C vs w E Oo hc Oo hb M b I s X y).mono ?_;rintro e w' ⟨rfl,rfl⟩;have r:=grownCap_ge w (n+1) cap 3;generalize hG:grownCap w (n+1) cap 3=G at r ⊢;have ac:G<=maxLen:=by rw[<- hG];exact grownCap_le_maxLen w _ _ _ (by unfold maxLen;omega)
    generalize hR:((C.take (i)).toArray++Builtin.zeroCells (Value.int .i64 0).cells (n+1-i)++Builtin.zeroCells (Value.int .i64 0).cells (G-(n+1)))=R;have ai:R.size=G*1:=by rw[<- hR];simp only[VY,Zh,Vq,Wf,show (Value.int .i64 0).cells.size=1 from rfl];omega
    have ad:R.toList.take (i)=C.take (i):=by rw[<- hR,VX,VX,WI];simp only[];rw[WU (by rw[Wf];omega),U4,Wab]
    obtain ⟨l,V,F⟩:=Zj (T:=3) vs (i) (w.alloc (.cells R 3)).drew R (heap_alloc_new w _) (by rw[b];omega);have ab:l.size=G*1:=by have:=congrArg List.length F;simp only[Wt,We,Wf,Wv]at this;omega
    obtain ⟨p,Y,W⟩:=Zj (T:=3) (C.drop (i)) ((i+1)) (((w.alloc (.cells R 3)).drew.setCells w.heap.size (i) vs).drew) l V (by rw[Wv];omega);have J:p.size=G*1:=by have:=congrArg List.length W;simp only[Wt,We,Wf,Wv]at this;omega
    have S:∀ k,k<w.heap.size->((((w.alloc (.cells R 3)).drew.setCells w.heap.size (i) vs).drew).setCells w.heap.size ((i+1)) (C.drop (i))).heap[k]?=w.heap[k]?:=λk hk=>by have g1:w.grownBy (w.alloc (.cells R 3)) none:=QaH;have g2:=Qr w.heap.size vs (i) (w.alloc (.cells R 3)).drew;have g3:=Qr w.heap.size (C.drop (i)) ((i+1)) (((w.alloc (.cells R 3)).drew.setCells w.heap.size (i) vs).drew);have s1:k<(w.alloc (.cells R 3)).drew.heap.size:=Vp hk g1.size;have s2:k<(((w.alloc (.cells R 3)).drew.setCells w.heap.size (i) vs).drew).heap.size:=Vp s1 g2.size;exact (g3.block k s2 (λe=>by injection e;omega)).trans ((g2.block k s1 (λe=>by injection e;omega)).trans (g1.block k hk Os))
    have z:w.grownBy ((((w.alloc (.cells R 3)).drew.setCells w.heap.size (i) vs).drew).setCells w.heap.size ((i+1)) (C.drop (i))) (some w.heap.size) :=
     QD QaH (QD (Jq _) (QD (Qr _ _ _ _) (QD (Jq _) (Qr _ _ _ _))))
    refine ⟨w.heap.size,G,p,_,rfl,z.os,z.tape,z.output,z.size,λj x _=>S j x,.inr ⟨Wl _,(VL.1 Y).1⟩,r,ac,Y,J,?_⟩;have:=splice3 (L:=R.toList) (A:=C.take (i)) (vs:=vs) (D:=C.drop (i)) (a:=i) (k:=1) (m:=n) ad Oo (QbC (Wt (xs:=R)) Oo) (b.trans rfl) (by rw[Wv];omega);rw[W,F,show (n+1)*1=n+1 by omega,show i*1=i by omega];exact this
 ·obtain rfl:i=0:=by omega
  refine (Qeg none 0 0 vb 0 1 vc [] vs w Oo Oo Oo Oo Os b (λ_=>rfl) Os s y).mono ?_;rintro e w' ⟨rfl,rfl⟩;have f:=QD (Jq w) (QaH (w:=w.drew) (row:=none) (o:=.cells (([]++vs).toArray++Builtin.zeroCells (Value.int .i64 0).cells (grownCap w (0+1) 0 3-(0+1))) 3));have r:=grownCap_ge w (0+1) 0 3;refine ⟨w.heap.size,_,_,_,rfl,rfl,rfl,rfl,f.size,λj x _=>f.block j x Os,.inr ⟨Wl _,Os⟩,r,grownCap_le_maxLen w _ _ _ (by unfold maxLen;omega),heap_alloc_new _ _,?_,?_⟩
  ·simp only[V3,VY,Zh,Vq];rw[b,show (Value.int .i64 0).cells.size=1 from rfl];omega
  ·simp only[V3,VX,W0,UH,List.take_nil,List.drop_nil,W6];rw[WU Oo,WD Oo]
set_option maxHeartbeats 2000000 in
theorem insS_raw{w:World}{n i:Nat}{v vv:Value}{g0:Option (Nat×Nat)}{C vs:List Value}
  (hs:(∃ g cap cur T,g0=some (g,cap)/\v = .slice (some ⟨g,0,none⟩) n cap/\n<=cap/\cap<=maxLen/\w.heap[g]?=some (.cells cur T (0,0))/\cur.size=cap*3/\C=cur.toList.take (n*3))\/(g0=none/\v = .slice none 0 0/\n=0/\C=[]))
  (hv:∃ vb vc cv Tv,vv = .slice (some ⟨vb,0,none⟩) 1 vc/\w.heap[vb]?=some (.cells cv Tv (0,0))/\cv.size=vc*3/\1<=vc/\vs=cv.toList.take 3/\∀ c,g0≠some (vb,c))
  (X:∀ u∈C,u.oneCell'=true)(y:∀ u∈vs,u.oneCell'=true)(hi:i<=n)(hb:(n+1)*40<=140737488355328) :
  Calls Tryz.prog 61 #[v,.int .i64 i,vv] w λe w'=>∃ g' cap' cur' T',e = .returned (.slice (some ⟨g',0,none⟩) (n+1) cap')/\w'.os=w.os/\w'.tape=w.tape/\w'.output=w.output/\w.heap.size<=w'.heap.size /\
   (∀ j,j<w.heap.size->(∀ c,g0≠some (j,c))->w'.heap[j]?=w.heap[j]?)/\((∃ c',g0=some (g',c'))\/(w.heap.size<=g'/\g' < w'.heap.size))/\n+1<=cap'/\cap'<=maxLen/\w'.heap[g']?=some (.cells cur' T' (0,0))/\cur'.size=cap' * 3/\cur'.toList.take ((n+1)*3)=C.take (i*3)++vs++C.drop (i*3):=by
 obtain ⟨vb,vc,cv,Tv,rfl,B,U,aj,rfl,ae⟩:=hv;have b:(cv.toList.take 3).length=1*3:=by rw[Wf,Wt,U];omega
 generalize hVS:cv.toList.take 3=vs at *;have s:∀ j u,vs[j]?=some u->w.cell? ⟨vb,0+j,none⟩=some u:=λj u h=>by
  rw[W0,Qau B];rw[<- hVS,WM]at h;split at h
  ·simpa using h
  ·cases h
 rcases hs with ⟨g,cap,cur,T,rfl,rfl,hc,hm,K,hs,H⟩ | ⟨rfl,rfl,rfl,rfl⟩
 ·have M:C.length=n*3:=by rw[H,Wf,Wt,hs];have:=Wy 3 hc;omega
  have H:=H.symm;have ag:C.length<=cur.toList.length:=by rw[<- H,Wf];omega
  have N:vb≠g:=λe=>ae cap (by rw[e]);have ah:g<w.heap.size:=(VL.1 K).1;have I:∀ j u,C[j]?=some u->w.cell? ⟨g,0+j,none⟩=some u:=λj u h=>by
   rw[W0,Qau K];rw[<- H,WM]at h;split at h
   ·simpa using h
   ·cases h
  have q:cap<=9223372036854775807:=by unfold maxLen at hm;omega
  have O:∀ j,j<(n+1)*3->n+1<=cap->(w.cell? ⟨g,0+j,none⟩).isSome=true:=λj x hr=>by rw[W0,Qau K,VW Oo];rfl
  have P:∀ j,w.frozen? ⟨g,j,none⟩=false:=λj=>XO K;have t:∀ {w':World},w.grownBy w' (some g)->∀ j,j<w.heap.size->(∀ c,some (g,cap)≠some (j,c))->w'.heap[j]?=w.heap[j]?:=λh j x hn=>h.block j x (λe=>by injection e with e;exact hn cap (by rw[e]));by_cases af:i=n
  ·subst af;by_cases d:i+1<=cap
   ·refine (insS_end_room g 0 i cap vb 0 1 vc vs w Oo d q b (λj x=>by rw[Vg];exact O _ Oo d) (λj x=>P _) s y).mono ?_;rintro e w' ⟨rfl,rfl⟩;obtain ⟨cur',V,F⟩:=Zj (T:=T) vs (0+i*3) w cur K (by rw[b];omega);have f:=Qr g vs (0+i*3) w;have Q:cur'.size=cap*3:=by have:=congrArg List.length F;simp only[Wt,We,Wf,Wv]at this;omega
    refine ⟨g,cap,cur',T,rfl,f.os,f.tape,f.output,f.size,t f,.inl ⟨_,rfl⟩,d,hm,V,Q,?_⟩;have Z:cur.toList.take (i*3)=C:=by simpa using H
    have e1:C.drop (i*3)=[]:=Vx Oo;have e2:C.take (i*3)=C:=WD Oo;rw[F,W0,show (i+1)*3=i*3+3 by omega,Z,e2,e1,W6];rw[WU (by rw[We,b];omega),WD (by rw[We,b];omega)]
   ·refine (Qef (some ⟨g,0,none⟩) i cap vb 0 1 vc C vs w Oo hc Oo hb M b (λe=>by cases e) (λa e j u h=>by
     injection e with e
     subst e
     rw[Addr.add_lit]
     exact I j u h) s y).mono ?_
    rintro e w' ⟨rfl,rfl⟩;have r:=grownCap_ge w (i+1) cap 62;have f:=QD (Jq w) (QaH (w:=w.drew) (row:=some g) (o:=.cells ((C++vs).toArray++Builtin.zeroCells (Value.agg #[.int .i64 0,.int .i64 0,.slice none 0 0]).cells (grownCap w (i+1) cap 62-(i+1))) 62));refine ⟨w.heap.size,_,_,_,rfl,rfl,rfl,rfl,f.size,t f,.inr ⟨Wl _,Os⟩,r,grownCap_le_maxLen w _ _ _ (by unfold maxLen;omega),heap_alloc_new _ _,?_,?_⟩
    ·rw[VY,Zh,show (Value.agg #[.int .i64 0,.int .i64 0,.slice none 0 0]).cells.size=3 from rfl];simp only[Vq,We,b,M];omega
    ·rw[VX,WU (by simp only[We,b,M];omega)];simp only[];rw[WD (by simp only[We,b,M];omega),WD Oo,Vx Oo,W6]
  ·have E:i<n:=by omega
   by_cases d:n+1<=cap
   ·have aa:cur.size≠0:=by omega
    refine (insS_shift g 0 n cap i vb 0 1 vc C vs w E Oo d q N M b I (λj x=>O j x d) (λj x=>P _) s X y Tv T cv.size cur.size (by simp[World.shape?,B]) (by simp[World.shape?,K]) aa (XO B) (XO B)).mono ?_;rintro e w' ⟨rfl,rfl⟩;obtain ⟨l,V,F⟩:=Zj (T:=T) (C.drop (i*3)) (0+(i+1)*3) w.drew cur K (by rw[Wv];omega);have ab:l.size=cap*3:=by have:=congrArg List.length F;simp only[Wt,We,Wf,Wv]at this;omega
    obtain ⟨p,Y,W⟩:=Zj (T:=T) vs (0+i*3) _ l V (by rw[b];omega);have J:p.size=cap*3:=by have:=congrArg List.length W;simp only[Wt,We,Wf,Wv]at this;omega
    have f:w.grownBy ((w.drew.setCells g (0+(i+1)*3) (C.drop (i*3))).setCells g (0+i*3) vs) (some g):=QD (Jq w) (QD (Qr g _ _ w.drew) (Qr g _ _ _));refine ⟨g,cap,p,T,rfl,f.os,f.tape,f.output,f.size,t f,.inl ⟨_,rfl⟩,d,hm,Y,J,?_⟩;have:=splice2 (L:=cur.toList) (C:=C) (vs:=vs) (D:=C.drop (i*3)) (a:=i*3) (k:=3) (m:=n*3) (by simpa using H) Oo (QbC (Wt (xs:=cur)) Oo) (b.trans rfl) rfl;rw[W,F,W0,W0,show (i+1)*3=i*3+3 by omega,show (n+1)*3=n*3+3 by omega];exact this
   ·refine (insS_grow g 0 n cap i vb 0 1 vc C vs w E Oo hc Oo hb M b I s X y).mono ?_;rintro e w' ⟨rfl,rfl⟩;have r:=grownCap_ge w (n+1) cap 62;generalize hG:grownCap w (n+1) cap 62=G at r ⊢;have ac:G<=maxLen:=by rw[<- hG];exact grownCap_le_maxLen w _ _ _ (by unfold maxLen;omega)
    generalize hR:((C.take (i*3)).toArray++Builtin.zeroCells (Value.agg #[.int .i64 0,.int .i64 0,.slice none 0 0]).cells (n+1-i)++Builtin.zeroCells (Value.agg #[.int .i64 0,.int .i64 0,.slice none 0 0]).cells (G-(n+1)))=R;have ai:R.size=G*3:=by rw[<- hR];simp only[VY,Zh,Vq,Wf,show (Value.agg #[.int .i64 0,.int .i64 0,.slice none 0 0]).cells.size=3 from rfl];omega
    have ad:R.toList.take (i*3)=C.take (i*3):=by rw[<- hR,VX,VX,WI];simp only[];rw[WU (by rw[Wf];omega),U4,Wab]
    obtain ⟨l,V,F⟩:=Zj (T:=62) vs (i*3) (w.alloc (.cells R 62)).drew R (heap_alloc_new w _) (by rw[b];omega);have ab:l.size=G*3:=by have:=congrArg List.length F;simp only[Wt,We,Wf,Wv]at this;omega
    obtain ⟨p,Y,W⟩:=Zj (T:=62) (C.drop (i*3)) ((i+1)*3) (((w.alloc (.cells R 62)).drew.setCells w.heap.size (i*3) vs).drew) l V (by rw[Wv];omega);have J:p.size=G*3:=by have:=congrArg List.length W;simp only[Wt,We,Wf,Wv]at this;omega
    have S:∀ k,k<w.heap.size->((((w.alloc (.cells R 62)).drew.setCells w.heap.size (i*3) vs).drew).setCells w.heap.size ((i+1)*3) (C.drop (i*3))).heap[k]?=w.heap[k]?:=λk hk=>by have g1:w.grownBy (w.alloc (.cells R 62)) none:=QaH;have g2:=Qr w.heap.size vs (i*3) (w.alloc (.cells R 62)).drew;have g3:=Qr w.heap.size (C.drop (i*3)) ((i+1)*3) (((w.alloc (.cells R 62)).drew.setCells w.heap.size (i*3) vs).drew);have s1:k<(w.alloc (.cells R 62)).drew.heap.size:=Vp hk g1.size;have s2:k<(((w.alloc (.cells R 62)).drew.setCells w.heap.size (i*3) vs).drew).heap.size:=Vp s1 g2.size;exact (g3.block k s2 (λe=>by injection e;omega)).trans ((g2.block k s1 (λe=>by injection e;omega)).trans (g1.block k hk Os))
    have z:w.grownBy ((((w.alloc (.cells R 62)).drew.setCells w.heap.size (i*3) vs).drew).setCells w.heap.size ((i+1)*3) (C.drop (i*3))) (some w.heap.size) :=
     QD QaH (QD (Jq _) (QD (Qr _ _ _ _) (QD (Jq _) (Qr _ _ _ _))))
    refine ⟨w.heap.size,G,p,_,rfl,z.os,z.tape,z.output,z.size,λj x _=>S j x,.inr ⟨Wl _,(VL.1 Y).1⟩,r,ac,Y,J,?_⟩;have:=splice3 (L:=R.toList) (A:=C.take (i*3)) (vs:=vs) (D:=C.drop (i*3)) (a:=i*3) (k:=3) (m:=n*3) ad Oo (QbC (Wt (xs:=R)) Oo) (b.trans rfl) (by rw[Wv];omega);rw[W,F,show (i+1)*3=i*3+3 by omega,show (n+1)*3=n*3+3 by omega];exact this
 ·obtain rfl:i=0:=by omega
  refine (Qef none 0 0 vb 0 1 vc [] vs w Oo Oo Oo Oo Os b (λ_=>rfl) Os s y).mono ?_;rintro e w' ⟨rfl,rfl⟩;have f:=QD (Jq w) (QaH (w:=w.drew) (row:=none) (o:=.cells (([]++vs).toArray++Builtin.zeroCells (Value.agg #[.int .i64 0,.int .i64 0,.slice none 0 0]).cells (grownCap w (0+1) 0 62-(0+1))) 62));have r:=grownCap_ge w (0+1) 0 62;refine ⟨w.heap.size,_,_,_,rfl,rfl,rfl,rfl,f.size,λj x _=>f.block j x Os,.inr ⟨Wl _,Os⟩,r,grownCap_le_maxLen w _ _ _ (by unfold maxLen;omega),heap_alloc_new _ _,?_,?_⟩
  ·simp only[V3,VY,Zh,Vq];rw[b,show (Value.agg #[.int .i64 0,.int .i64 0,.slice none 0 0]).cells.size=3 from rfl];omega
  ·simp only[V3,VX,W0,UH,List.take_nil,List.drop_nil,W6];rw[WU Oo,WD Oo]
def sAt(s:ByteArray)(i:Int):Option Int:=if 0<=i then(s[i.toNat]?).map λb=>((b.toNat:Nat):Int) else none
section
variable{P:Program}{o:Oper}{env:Env}{sto:Sto}{nxt:Nat}
theorem m_lenS{x:Operand}{t:Nat}{e:TyD}{s:ByteArray}(i:QB P t e)(d:o.op = .call ⟨.builtin .len,#[x],#[t]⟩:=by rfl)(h:e.k = .str:=by rfl)(j:opd env x = .lit (.string s):=by rfl):Qv P o env sto nxt ⟨.lit (.int .i64 (s.size:Nat)),[],[],0⟩:=.ran λF m a f g _ _=>by have b:=g x (by simp[d,Op.operands,Call.operands]);rw[j]at b;have c:=i.kind;rw[h]at c;exact Ran.val f (v:=.int .i64 (s.size:Nat)) (by simp[execOp,d,resolve,invoke,builtin,b.lit_inv,Builtin.len_,run_underlying c,goInt]) (.pure (.lit _ rfl))
theorem m_idS{x d:Operand}{t:Nat}{l:TyD}{s:ByteArray}{k:IntKind}{i v:Int}(h:sAt s i=some v)(q:QB P t l)(c:o.op = .index t x d:=by rfl)(p:l.k = .str:=by rfl)(u:opd env x = .lit (.string s):=by rfl)(r:opd env d = .lit (.int k i):=by rfl):Qv P o env sto nxt ⟨.lit (.int .u8 v),[],[],0⟩:=.ran λF m a n j _ _=>by
 have e:=j x (by simp[c,Op.operands]);have f:=j d (by simp[c,Op.operands]);rw[u]at e;rw[r]at f;have g:=q.kind;rw[p]at g;unfold sAt at h;split at h
 ·rename_i h0;cases hb:s[i.toNat]? with
  | none=>rw[hb]at h;cases h
  | some b =>rw[hb]at h;obtain rfl:=VC h;exact Ran.val n (v:=.int .u8 (b.toNat:Nat)) (by simp[execOp,c,e.lit_inv,f.lit_inv,Instr.index,asIntOf,run_underlying g,h0,hb]) (.pure (.lit _ rfl))
 ·cases h
theorem Qfv{t:Nat}{x y:Operand}{g:Nat}{p q:ByteArray}(b:o.op = .binOp .eql t x y g:=by rfl)(i:opd env x = .lit (.string p):=by rfl)(h:opd env y = .lit (.string q):=by rfl):Qv P o env sto nxt ⟨.lit (.bool (p.toList == q.toList)),[],[],0⟩:=.ran λF m a f e _ _=>by have c:=e x (by simp[b,Op.operands]);have d:=e y (by simp[b,Op.operands]);rw[i]at c;rw[h]at d;exact Qcg rfl b f c.lit_inv d.lit_inv (by simp[eqGuard,binOp,Op.stringOp])
theorem m_fcv{c d:Nat}{x:Operand}{i e:TyD}{q:IntKind}{n:Int}(s:QB P c i)(p:QB P d e)(h:o.op = .convert c d x:=by rfl)(r:e.k = .flt .f64:=by rfl)(t:opd env x = .lit (.int q n):=by rfl) :
  Qv P o env sto nxt ⟨.lit (.float .f64 (FloatKind.f64.nearest n)),[],[],0⟩:=.ran λF m a k l _ _=>by
 have b:=l x (by simp[h,Op.operands])
 rw[t]at b
 have g:=p.kind
 rw[r]at g
 dsimp only at g
 obtain ⟨u,hu⟩:∃ u,P.underlying c=some u:=by
  have b:=s.kind;obtain ⟨j,_,_,_⟩:=i;cases j <;> dsimp only at b
  case struct=>obtain ⟨f,b,_⟩:=b;exact ⟨_,b⟩
  case other=>obtain ⟨f,b,_⟩:=b;exact ⟨_,b⟩
  all_goals exact ⟨_,b⟩
 refine Ran.val k (v:=.float .f64 (FloatKind.f64.nearest n)) ?_ (.pure (.lit _ rfl))
 cases u <;> simp[execOp,h,b.lit_inv,convert,run_underlying hu,run_underlying g,Conv.intToFloat]
theorem m_fqu{t:Nat}{x y:Operand}{i:Nat}{p q r:Nat}(h:FloatKind.f64.format.div p q=some r)(b:o.op = .binOp .quo t x y i:=by rfl)(j:opd env x = .lit (.float .f64 p):=by rfl)(g:opd env y = .lit (.float .f64 q):=by rfl):Qv P o env sto nxt ⟨.lit (.float .f64 r),[],[],0⟩:=.ran λF m a f e _ _=>by have c:=e x (by simp[b,Op.operands]);have d:=e y (by simp[b,Op.operands]);rw[j]at c;rw[g]at d;exact Qcg rfl b f c.lit_inv d.lit_inv (by simp[eqGuard,binOp,Op.floatArith,h])
def Qfx(op:BinOp)(p q:Nat):Bool:=let c:=FloatKind.f64.format.order p q;match op with
 | .eql=>c == some .eq
 | .neq=>c != some .eq
 | .lss=>c == some .lt
 | .leq=>c == some .lt || c == some .eq
 | .gtr=>c == some .gt
 | .geq=>c == some .gt || c == some .eq
 | _=>false
theorem Qfu{b:BinOp}{t:Nat}{x y:Operand}{j:Nat}{p q:Nat}(d:b = .eql\/b = .neq\/b = .lss\/b = .leq\/b = .gtr\/b = .geq)(c:o.op = .binOp b t x y j:=by rfl)(k:opd env x = .lit (.float .f64 p):=by rfl)(i:opd env y = .lit (.float .f64 q):=by rfl):Qv P o env sto nxt ⟨.lit (.bool (Qfx b p q)),[],[],0⟩:=.ran λF m a h g _ _=>by have e:=g x (by simp[c,Op.operands]);have f:=g y (by simp[c,Op.operands]);rw[k]at e;rw[i]at f;refine Qcg rfl c h e.lit_inv f.lit_inv ?_;rcases d with rfl | rfl | rfl | rfl | rfl | rfl <;> simp[eqGuard,binOp,Op.floatCmp,Qfx]
theorem m_max{x y:Operand}{i:Array TypeId}{k:IntKind}{p q:Int}(b:o.op = .call ⟨.builtin .max,#[x,y],i⟩:=by rfl)(h:opd env x = .lit (.int k p):=by rfl)(g:opd env y = .lit (.int k q):=by rfl):Qv P o env sto nxt ⟨.lit (.int k (max p q)),[],[],0⟩:=.ran λF m a f e _ _=>by have c:=e x (by simp[b,Op.operands,Call.operands]);have d:=e y (by simp[b,Op.operands,Call.operands]);rw[h]at c;rw[g]at d;exact Ran.val f (v:=.int k (max p q)) (by simp[execOp,b,resolve,invoke,builtin,c.lit_inv,d.lit_inv,Builtin.max_,Builtin.max2] <;> (split <;> omega)) (.pure (.lit _ rfl))
theorem m_bdX{t e n:Nat}{parts:Array (Nat×Operand)}{l:List (Nat×Operand)}{f q:TyD}{b:List DV}{r:List Nat}(B:QB P t f)(Q:QB P e q)(A:o.op = .build t parts:=by rfl)(k:parts=l.toArray:=by rfl)(O:f.k = .array n e:=by rfl)
  (h:QdQ sto (λi=>some (i*q.size,q.size)) f.zero (l.map λp=>(p.1,opd env p.2))=some (b,r):=by rfl):Qv P o env sto nxt ⟨.agg b,[],r,0⟩:=.ran λF m a L M N _=>by
 subst k
 obtain ⟨i,z,G,_,_,H,s,I,_⟩:=QbM B
 obtain ⟨i2,_,J,K,_,_,_,_,_⟩:=QbM Q
 have g:=B.kind
 rw[O]at g
 dsimp only at g
 have C:Reps m z.cells.toList f.zero:=⟨by rw[<- s];simp,λi v d y c=>by
  rw[<- s,Wh,y]at c
  injection c with c
  subst c
  exact .pure (.lit v (I v (by simpa using List.mem_of_getElem? y)))⟩
 obtain ⟨j,u,w⟩:=Qgb (parts:=l) (λp k=>M p.2 (by simp only[A,Op.operands];simp;exact ⟨p.1,k⟩)) C h N
 rw[U1]at u
 have D:P.built t (l.map λp=>(p.1,a.eval p.2))=some j.toArray:=by unfold Program.built;simp only[G,g,H,J,K];simpa using u
 refine Ran.val L (v:=.agg j.toArray) ?_ (.agg w.1 w.2)
 have E:=run_build (P:=P) m.w t (l.map λp=>(p.1,a.eval p.2)).toArray j.toArray (by simpa using D)
 simp only[execOp,A]
 rw[show (l.toArray.map λ(x:Nat×Operand)=>match x with | (i,x)=>(i,a.eval x))=(l.map λp=>(p.1,a.eval p.2)).toArray from by simp]
 rw[Sem.run_bind,E]
 rfl
theorem m_ext1{x:Operand}{k:Array TypeId}{f:Nat}{u v:Value}(h:∀ w,(callFunc f #[u]).run P w = .ok (.value v) w)(j:v.oneCell'=true)(c:o.op = .call ⟨.value (.func f),#[x],k⟩:=by rfl)(l:opd env x = .lit u:=by rfl):Qv P o env sto nxt ⟨.lit v,[],[],0⟩:=.ran λF m a g i _ _=>by have b:=i x (by simp[c,Op.operands,Call.operands]);rw[l]at b;have d:=b.lit_inv;have e:a.eval (.func f) = .func (.func f) #[] #[]:=rfl;exact Ran.val g (v:=v) (by simp only[execOp,c];simp[resolve,e,d,Deferred.ofValue,invoke,h]) (.pure (.lit _ j))
end
abbrev aO(z:Nat)(l:List (List DV)):Ob:=⟨z,true,false,l⟩
abbrev fO(z:Nat)(l:List (List DV)):Ob:=⟨z,true,true,l⟩
abbrev bO(z:Nat)(l:List DV):Ob:=⟨z,false,false,[l]⟩
abbrev r0:Ren:=[]
abbrev r1:Ren:=[(0,0)]
abbrev r2:Ren:=[(0,0),(1,1)]
abbrev r3:Ren:=[(0,0),(1,1),(2,2)]
abbrev r4:Ren:=[(0,0),(1,1),(2,2),(3,3)]
abbrev r5:Ren:=[(0,0),(1,1),(2,2),(3,3),(4,4)]
abbrev r6:Ren:=[(0,0),(1,1),(2,2),(3,3),(4,4),(5,5)]
abbrev r7:Ren:=[(0,0),(1,1),(2,2),(3,3),(4,4),(5,5),(6,6)]
abbrev r8:Ren:=[(0,0),(1,1),(2,2),(3,3),(4,4),(5,5),(6,6),(7,7)]
abbrev r10:Ren:=[(0,0),(1,1),(2,2),(3,3),(4,4),(5,5),(6,6),(7,7),(8,8),(9,9)]
abbrev r13:Ren:=[(0,0),(1,1),(2,2),(3,3),(4,4),(5,5),(6,6),(7,7),(8,8),(9,9),(10,10),(11,11),(12,12)]
abbrev r14:Ren:=[(0,0),(1,1),(2,2),(3,3),(4,4),(5,5),(6,6),(7,7),(8,8),(9,9),(10,10),(11,11),(12,12),(13,13)]
abbrev r15:Ren:=[(0,0),(1,1),(2,2),(3,3),(4,4),(5,5),(6,6),(7,7),(8,8),(9,9),(10,10),(11,11),(12,12),(13,13),(14,14)]
section
variable{α β ρ σ:Type}{G:Prop}
theorem xd{x:Option α}{K:α->Option β}{r:β}(k:∀ v,Sm x v->Sm (K v) r->G):Sm (x.bind K) r->G:=λH=>by obtain ⟨v,a,b⟩:=bd H;exact k v a b
theorem xa{l:List α}{i:Int}{K:α->Option β}{r:β}(k:∀ v,At l i v->Sm (K v) r->G):Sm ((at_ l i).bind K) r->G:=λH=>by obtain ⟨v,a,b⟩:=ba H;exact k v a b
theorem xc{p:Prop}[Decidable p]{A:Option β}{r:β}(k:p->Sm A r->G):Sm (if p then A else none) r->G:=λH=>by obtain ⟨a,b⟩:=cq H;exact k a b
theorem xs{p:Prop}[Decidable p]{A B:Option β}{r:β}(c:p->Sm A r->G)(d:¬ p->Sm B r->G):Sm (if p then A else B) r->G:=λH=>by
 rcases fs H with ⟨a,b⟩ | ⟨a,b⟩
 ·exact c a b
 ·exact d a b
theorem xo{v z:β}{y:LS σ β}(a:∀ b,y = .out b->b=z)(k:Sm (some v) z->G):Sm (some (LS.out v)) y->G:=λH=>k ⟨by rw[a v (se H).symm]⟩
theorem xr{v r:ρ}{z:β ⊕ ρ}(a:∀ r',z = .inr r'->r'=r)(k:Sm (some v) r->G):Sm (some (Sum.inr v)) z->G:=λH=>k ⟨by rw[a v (se H).symm]⟩
theorem xx{A B X:Prop}(f:A->B)(k:X->A):X->B:=λx=>f (k x)
end
section
variable{P:Program}{nt n0:Nat}{Q:Exit->DSt->Prop}{st:DSt}{X:Prop}
theorem Qen{c:Code}(h:X->Q .normal st)(a:c = .skip:=by rfl):X->DWp P nt n0 c Q st:=λx=>by subst a;exact d_skip (h x)
theorem Qep{id:Nat}{c:Code}(h:X->Q (.exit id) st)(a:c = .exit id:=by rfl):X->DWp P nt n0 c Q st:=λx=>by subst a;exact d_exit (h x)
theorem Qeo{c:Code}(h:X->Q .ret st)(a:c = .ret:=by rfl):X->DWp P nt n0 c Q st:=λx=>by subst a;exact d_ret (h x)
theorem Qcx{l:Nat}{c:Code}(h:X->Q .normal st)(a:c = .label l:=by rfl):X->DWp P nt n0 c Q st:=λx=>by subst a;exact d_label (h x)
theorem Qcy{id:Nat}{c b:Code}(h:X->DWp P nt n0 c (blockD id Q) st)(a:b = .block id c:=by rfl):X->DWp P nt n0 b Q st:=λx=>by subst a;exact d_block (h x)
theorem a_condA{c:Operand}{a x y:Code}{b:Bool}(h:X->DWp P nt n0 x Q st)(f:a = .cond c x y:=by rfl)(d:opd st.env c = .lit (.bool b):=by rfl)(e:b=true:=by first | exact decide_eq_true Oa | exact decide_eq_false Oa | assumption | exact eq_false_of_ne_true Oa | exact nt (decide_eq_true Oa) | exact congrArg not (decide_eq_false Oa) | exact congrArg not Oa | exact congrArg not (eq_false_of_ne_true Oa)):X->DWp P nt n0 a Q st:=λq=>by subst f;exact d_condE d e (h q)
theorem a_condB{c:Operand}{a x y:Code}{b:Bool}(h:X->DWp P nt n0 y Q st)(f:a = .cond c x y:=by rfl)(d:opd st.env c = .lit (.bool b):=by rfl)(e:b=false:=by first | exact decide_eq_true Oa | exact decide_eq_false Oa | assumption | exact eq_false_of_ne_true Oa | exact nt (decide_eq_true Oa) | exact congrArg not (decide_eq_false Oa) | exact congrArg not Oa | exact congrArg not (eq_false_of_ne_true Oa)):X->DWp P nt n0 a Q st:=λq=>by subst f;exact d_condN d e (h q)
theorem a_condC{c:Operand}{a x y:Code}(h:X->DWp P nt n0 x Q st)(d:a = .cond c x y:=by rfl)(b:opd st.env c = .lit (.bool true):=by rfl):X->DWp P nt n0 a Q st:=λq=>by subst d;exact d_condT b (h q)
theorem a_condD{c:Operand}{a x y:Code}(h:X->DWp P nt n0 y Q st)(d:a = .cond c x y:=by rfl)(b:opd st.env c = .lit (.bool false):=by rfl):X->DWp P nt n0 a Q st:=λq=>by subst d;exact d_condF b (h q)
theorem sq{x y:Code}(h:∀ K:DSt->Prop,(∀ s,DWp P nt n0 y Q s->K s)->X->DWp P nt n0 x (QcT K Q) st):X->DWp P nt n0 (.seq x y) Q st:=λq=>d_seq λK k=>h K k q
theorem a_k{K D:DSt->Prop}{s:DSt}(k:∀ s,D s->K s)(h:X->D s):X->K s:=λx=>k s (h x)
variable{id:Nat}{ops:Array Oper}{l:List Oper}{y c0:Code}
theorem b_rs(h:Q0 P l.toArray l st λouts s=>seqB nt l outs=true/\(X->DWp P nt n0 y Q s))(c:c0 = .seq (.region id ops false) y:=by rfl)(b:ops=l.toArray:=by rfl):X->DWp P nt n0 c0 Q st:=λx=>by subst c;exact d_rs b (h.mono λo s a=>⟨a.1,a.2 x⟩)
theorem b_as[MixP P](h:Q0 P l.toArray l st λouts s=>(seqB nt l outs=true/\ordB l.toArray outs=true)/\(X->DWp P nt n0 y Q s))(d:c0 = .seq (.region id ops true) y:=by rfl)(b:ops=l.toArray:=by rfl)(c:backB l.toArray=true:=by kernel_rfl):X->DWp P nt n0 c0 Q st:=λx=>by subst d;exact d_as MixP.ok b c (h.mono λo s a=>⟨a.1,a.2 x⟩)
theorem b_rg(h:Q0 P l.toArray l st λouts s=>seqB nt l outs=true/\(X->Q .normal s))(c:c0 = .region id ops false:=by rfl)(b:ops=l.toArray:=by rfl):X->DWp P nt n0 c0 Q st:=λx=>by subst c;exact d_region b (h.mono λo s a=>⟨a.1,a.2 x⟩)
theorem b_ay[MixP P](h:Q0 P l.toArray l st λouts s=>(seqB nt l outs=true/\ordB l.toArray outs=true)/\(X->Q .normal s))(d:c0 = .region id ops true:=by rfl)(b:ops=l.toArray:=by rfl)(c:backB l.toArray=true:=by kernel_rfl):X->DWp P nt n0 c0 Q st:=λx=>by subst d;exact d_any MixP.ok b c (h.mono λo s a=>⟨a.1,a.2 x⟩)
theorem b_ayK[MixP P](K:List Nat)(h:Q0 P l.toArray l st λouts s=>(seqB nt l outs=true/\ordK K l.toArray outs=true/\cstP st.sto st.nxt outs K)/\(X->Q .normal s))(d:c0 = .region id ops true:=by rfl)(b:ops=l.toArray:=by rfl)(c:backB l.toArray=true:=by kernel_rfl):X->DWp P nt n0 c0 Q st:=λx=>by subst d;exact d_anyK MixP.ok b c (h.mono λo s a=>⟨a.1,a.2 x⟩)
theorem DWp.sto{c:Code}{env:Env}{sto d:Sto}{nxt:Nat}(e:∀ s,sto.get s=d.get s)(h:DWp P nt n0 c Q ⟨env,d,nxt⟩):DWp P nt n0 c Q ⟨env,sto,nxt⟩:=λC j k a w l=>h C j k a w (by
 obtain ⟨m,g,b,i⟩:=l
 exact ⟨m,g,⟨b.inv,b.M,b.size,b.defers,b.org,b.lim0,b.env,λs f n=>b.sto s f (by show Sto.get sto s=some f;rw[e];exact n)⟩,i⟩)
theorem Qi{c:Code}{env:Env}{sto:Sto}{nxt:Nat}(b j z:Nat){n:Nat}{e:Bool}{cs:List DV}(i:0<z)(g:sto.get b=some ⟨n,false,e,[cs]⟩)(f:cs[j]?=some (.lit (.slice none 0 0)))
  (h:DWp P nt n0 c Q ⟨env,(b,⟨n,false,e,[cs.set j (.own nxt 0 0)]⟩) :: (nxt,⟨z,true,false,[]⟩) :: sto,nxt+1⟩):DWp P nt n0 c Q ⟨env,sto,nxt⟩ :=
 d_nilB b j z i g f (DWp.sto (λs=>by
  simp only[Sto.get_cons,Sto.drop_get]
  by_cases a:s=b
  ·rw[if_pos a,if_pos a]
  ·by_cases d:s=nxt
   ·simp[a,d]
   ·simp[a,d]) h)
theorem QF{c:Code}{env:Env}{sto:Sto}{nxt:Nat}(k z:Nat)(d:0<z)(b:env.get k = .lit (.slice none 0 0))(h:DWp P nt n0 c Q ⟨env.put (some k) (.own nxt 0 0),(nxt,⟨z,true,false,[]⟩) :: sto,nxt+1⟩):DWp P nt n0 c Q ⟨env,sto,nxt⟩ :=
 d_nil k z d b (DWp.sto (λs=>by
  simp only[Sto.get_cons,Sto.drop_get]
  by_cases a:s=nxt
  ·simp[a]
  ·simp[a]) h)
theorem ct{β ρ:Type}{x y:Code}{Y:Option β}{K:β->Option ρ}{r:ρ}(I:β->DSt)
  (c:∀ z,Sm Y z->DWp P nt n0 x (QcT (λs=>ZB n0 s (I z)) Q) st)(a:∀ b,Sm (K b) r->DWp P nt n0 y Q (I b)):Sm (Y.bind K) r->DWp P nt n0 (.seq x y) Q st:=λH=>d_cutS I H c a
theorem cu{β ρ:Type}{x y:Code}{Y:Option (β ⊕ ρ)}{K:β->Option ρ}{r:ρ}(I:β->DSt)
  (c:∀ z,(∀ r',z = .inr r'->r'=r)->Sm Y z->DWp P nt n0 x (QcT (λs=>∃ b,z = .inl b/\ZB n0 s (I b)) Q) st)(a:∀ b,Sm (K b) r->DWp P nt n0 y Q (I b)):Sm (bndR Y K) r->DWp P nt n0 (.seq x y) Q st:=λH=>d_cutT I H c a
theorem lp{β σ:Type}{a:Code}{f:σ->Option (LS σ β)}{c:σ}{z:β}(I:σ->DSt)(e:ZB n0 st (I c))
  (d:∀ s y,(∀ b,y = .out b->b=z)->Sm (f s) y->DWp P nt n0 a (QcT (λs'=>∃ x',y = .go x'/\ZB n0 s' (I x')) Q) (I s)):Sm (Qf f c) z->DWp P nt n0 (.loop a) Q st:=λH=>d_loopS I H e d
theorem mk0 {β:Type} {v:Option β} {r:β} {f:FuncId} {b:Func} {c:Code} {ds:List DV} {S:Sto} {e:DV} {d:Sto} (g:P.funcs[f]?=some b)
  (h:Sm v r->DWp P (ds.length+(b.ntmps-ds.length)) S.length c (RetD P b S.length e d) ⟨envOf 0 ds,S,S.length⟩) (a:(b.name == "runtime.NumGoroutine")=false:=by rfl) (i:b.body=some c:=by rfl):Sm v r->DCall P f ds S e d:=λH=>DCall.mk g a i (h H)
end
section
variable{n0:Nat}{st:DSt}{β σ ρ:Type}{I:β->DSt}{v z:β}{fr1 fr2:List Nat}
end
section
variable{P:Program}{env:Env}{sto:Sto}{nxt:Nat}{o:Oper}
theorem takeAll{a:TyD}{y:List DV}(b:a.agg=true)(c:y.length=a.size):ldD a y=some (.agg y):=by unfold ldD;rw[if_pos b,if_pos Oo,<- c,WQ]
theorem m_loadW{t s z:Nat}{p:Operand}{a:TyD}{y:List DV}{f c:Bool}(e:o.op = .load t p:=by rfl)(d:opd env p = .ptr s 0 0:=by rfl)(h:QB P t a:=by exact TyI.ok)(b:a.agg=true:=by rfl)(i:sto.get s=some ⟨z,f,c,[y]⟩:=by rfl)(g:y.length=a.size:=by rfl) :
  Qv P o env sto nxt ⟨.agg y,[],[s],0⟩:=r_load e h d i rfl (takeAll (y:=y.drop 0) b (by rw[UN];exact g))
theorem m_loadP{t:Nat}{p:Operand}{a:TyD}{y:List DV}(d:o.op = .load t p:=by rfl)(c:opd env p = .pp y:=by rfl)(f:QB P t a:=by exact TyI.ok)(b:a.agg=true:=by rfl)(e:y.length=a.size:=by rfl) :
  Qv P o env sto nxt ⟨.agg y,[],[],0⟩:=r_loadP d f c (takeAll b e)
theorem QfY{t s z:Nat}{p x:Operand}{d:TyD}{y cs:List DV}{r:List Nat}(i:o.op = .store t p x:=by rfl)(g:opd env p = .ptr s 0 0:=by rfl)(m:sto.get s=some ⟨z,false,false,[y]⟩:=by rfl)(k:QB P t d:=by exact TyI.ok)(n:QbE d (opd env x)=some cs:=by rfl)
  (j:y.length=cs.length:=by rfl)(l:boxF sto cs=some r:=by rfl):Qv P o env sto nxt ⟨.any,[(s,some ⟨z,false,false,[cs]⟩)],s :: r,0⟩:=by
 have:=Qgt (P:=P) (nxt:=nxt) i k g m rfl rfl n l (y:=y) rfl Oo;have e:∀ (cs y a:List DV),y.length=cs.length->setCells (a++y) a.length cs=a++cs:=by
  intro cs;induction cs with
  | nil=>intro y a h;rw[VA.1 h];rfl
  | cons c cs ih =>
   intro y a h;cases y with
   | nil=>cases h
   | cons b y =>have:=ih y (a++[c]) (by simpa using h);rw[We,WI,WI]at this;rw[setCells,Yn _ _ (Wl _),V1];exact this
 have f:=e cs y [] j;dsimp only at this;rw[show setCells y 0 cs=cs from f]at this;exact this
theorem QfZ{t s j z:Nat}{p x:Operand}{a:TyD}{y cs row:List DV}{r:List Nat}(c:o.op = .store t p x:=by rfl)(b:opd env p = .ptr s 0 j:=by rfl)(h:sto.get s=some ⟨z,false,false,[y]⟩:=by rfl)(f:QB P t a:=by exact TyI.ok)(i:QbE a (opd env x)=some cs:=by rfl)
  (d:j+cs.length<=y.length:=by first | decide | exact V0 rfl)(g:boxF sto cs=some r:=by rfl)(e:setCells y j cs=row:=by dsimp only[setCells,List.set];exact rfl):Qv P o env sto nxt ⟨.any,[(s,some ⟨z,false,false,[row]⟩)],s :: r,0⟩:=by have:=Qgt (P:=P) (nxt:=nxt) c f b h rfl rfl i g (y:=y) rfl d;dsimp only at this;rw[e]at this;exact this
theorem frzN{sto:Sto}:QdP sto []=[]:=rfl
theorem frzC{sto:Sto}{s z:Nat}{a f:Bool}{b:List (List DV)}{l:List Nat}{u:List (Nat×Option Ob)}(h:sto.get s=some ⟨z,a,f,b⟩)(k:QdP sto l=u):QdP sto (s :: l)=(s,some ⟨z,a,true,b⟩) :: u:=by show (match sto.get s with | some ob=>(s,some { ob with frz:=true }) :: QdP sto l | none=>QdP sto l)=_;rw[h,k]
def cuM(φ:Nat->Nat)(b:Sto)(a:List (Nat×Nat)):List (Nat×Option Ob):=a.map λp=>(p.2,(b.get p.1).map (renO φ))
theorem cuN{φ:Nat->Nat}{a:Sto}:cuM φ a []=[]:=rfl
theorem cuA{φ:Nat->Nat}{d:Sto}{a b z:Nat}{f:Bool}{c:List (List DV)}{l:List (Nat×Nat)}{u:List (Nat×Option Ob)}(h:d.get a=some ⟨z,true,f,c⟩)(k:cuM φ d l=u):cuM φ d ((a,b) :: l)=(b,some ⟨z,true,f,c⟩) :: u:=by subst k;unfold cuM;rw[Vj];show (b,(d.get a).map (renO φ)) :: _=_;rw[h];rfl
theorem cuB{φ:Nat->Nat}{e:Sto}{a b z:Nat}{f:Bool}{d c:List (List DV)}{l:List (Nat×Nat)}{u:List (Nat×Option Ob)}(h:e.get a=some ⟨z,false,f,d⟩)(g:d.map (renL φ)=c)(k:cuM φ e l=u):cuM φ e ((a,b) :: l)=(b,some ⟨z,false,f,c⟩) :: u:=by subst k g;unfold cuM;rw[Vj];show (b,(e.get a).map (renO φ)) :: _=_;rw[h];rfl
theorem cuZ{φ:Nat->Nat}{c:Sto}{a b:Nat}{l:List (Nat×Nat)}{u:List (Nat×Option Ob)}(h:c.get a=none)(k:cuM φ c l=u):cuM φ c ((a,b) :: l)=(b,none) :: u:=by subst k;unfold cuM;rw[Vj];show (b,(c.get a).map (renO φ)) :: _=_;rw[h];rfl
def cuK(ρ:Ren)(n0 nxt:Nat)(a:Sto):List (Nat×Nat):=ρ++(List.range (idb a n0-n0)).map λi=>(n0+i,nxt+i)
theorem cu_eq(ρ:Ren)(n0 nxt:Nat)(a:Sto):Qa4 ρ n0 nxt a=cuM (phi ρ n0 nxt) a (cuK ρ n0 nxt a):=by unfold Qa4 cuM cuK;rw[WP,Va];rfl
theorem updS{ρ:Ren}{n0 nxt:Nat}{a:Sto}{b:List (Nat×Nat)}{u:List (Nat×Option Ob)}(h:cuK ρ n0 nxt a=b)(k:cuM (phi ρ n0 nxt) a b=u):Qa4 ρ n0 nxt a=u:=by rw[cu_eq,h,k]
theorem updG{sto:Sto}{ρ:Ren}{n0 nxt:Nat}{a:Sto}{u v:List (Nat×Option Ob)}{fr:List Nat}(h:Qa4 ρ n0 nxt a=u)(k:QdP sto fr=v):Qa4 ρ n0 nxt a++QdP sto fr=u++v:=by rw[h,k]
structure CS(ρ:Ren)(P:Program)(f:Nat)(ds:List DV)(S:Sto)(r:DV)(S':Sto):Prop where
 h:DCall P f ds S r S'
 a:scB r=true
 b:ScS S'
structure CG(ρ:Ren)(P:Program)(f:Nat)(ds:List DV)(S:Sto)(r:DV)(S':Sto):Prop where
 h:DCall P f ds S r S'
theorem cS{f:Nat}{ds:List DV}{S:Sto}{r:DV}{c:Sto}(ρ:Ren)(h:DCall P f ds S r c)(b:ScS c:=by repeat' (first | exact ScS.nil | refine ScS.box (scL rfl) ?_ | refine ScS.cons (scC λ_=>rfl) ?_))(a:scB r=true:=by rfl):CS ρ P f ds S r c:=⟨h,a,b⟩
theorem cG{f:Nat}{ds:List DV}{S:Sto}{r:DV}{a:Sto}(ρ:Ren)(h:DCall P f ds S r a):CG ρ P f ds S r a:=⟨h⟩
theorem m_cSA{c:Operand}{a:Array Operand}{l:List Operand}{q:Array TypeId}{f:Nat}{cap ds:List DV}{S:Sto}{r:DV}{g:Sto}{b d:List Nat}{ρ:Ren}{us:List (Nat×Option Ob)}(k:o.op = .call ⟨.value c,a,q⟩:=by rfl)(m:a=l.toArray:=by rfl)(i:QbU env c f cap:=by first | exact .func | exact .tmp rfl | exact .clo rfl)(j:CS ρ P f ds S r g:=by assumption)
  (s:CvL sto ρ (l.map (opd env)++cap) ds b:=by repeat' (first | exact CvL.nil | apply CvL.cons | exact .lit | exact .own rfl | exact .sl | exact .nil | exact .ptr rfl | exact .ownE rfl (by first | assumption | exact Eq.symm Oa | omega | (simp;done) | (simp;omega)) | exact .frzM rfl (by first | assumption | exact Eq.symm Oa | omega | (simp;done) | (simp;omega)) | exact .dfzM rfl (λ_=>rfl) (λ_=>rfl) (by first | assumption | exact Eq.symm Oa | omega | (simp;done) | (simp;omega)) | exact .any | exact .pp | apply Cv.agg | apply Cv.tup | apply Cv.fn))
  (n:CvS sto ρ S d:=by repeat' (first | exact CvS.nil | apply CvS.cons rfl rfl | exact .arr rfl | exact CvO.same (dpM λ_=>rfl) | apply CvO.rowAt (λ_=>rfl) | apply CvO.box | exact CvL.nil | apply CvL.cons | exact CvL.numbers _ | exact CvL.bools _ | exact .lit | exact .own rfl | exact .sl | exact .nil | exact .ptr rfl | exact .ownE rfl (by first | assumption | exact Eq.symm Oa | omega | (simp;done) | (simp;omega)) | exact .frzM rfl (by first | assumption | exact Eq.symm Oa | omega | (simp;done) | (simp;omega)) | exact .dfzM rfl (λ_=>rfl) (λ_=>rfl) (by first | assumption | exact Eq.symm Oa | omega | (simp;done) | (simp;omega))))
  (h:okC ρ (b++d) S.length=true:=by rfl)(e:QgF sto ρ=true:=by rfl)(p:Qa4 ρ S.length nxt g=us:=by apply updS rfl;repeat' (first | exact cuN | apply cuA rfl | apply cuB rfl rfl | apply cuZ rfl)):Qv P o env sto nxt ⟨ren (phi ρ S.length nxt) r,us,ρ.map (·.2)++(b++d),idb g S.length-S.length⟩:=p▸JG ρ j.h j.a j.b k m i s n h e
theorem m_cGA{c:Operand}{d:Array Operand}{l:List Operand}{q:Array TypeId}{f:Nat}{cap ds:List DV}{S:Sto}{r:DV}{g:Sto}{a b:List Nat}{ρ:Ren}{us:List (Nat×Option Ob)}(j:o.op = .call ⟨.value c,d,q⟩:=by rfl)(k:d=l.toArray:=by rfl)(i:QbU env c f cap:=by first | exact .func | exact .tmp rfl | exact .clo rfl)(p:CG ρ P f ds S r g:=by assumption)
  (s:CvL sto ρ (l.map (opd env)++cap) ds a:=by repeat' (first | exact CvL.nil | apply CvL.cons | exact .lit | exact .own rfl | exact .sl | exact .nil | exact .ptr rfl | exact .ownE rfl (by first | assumption | exact Eq.symm Oa | omega | (simp;done) | (simp;omega)) | exact .frzM rfl (by first | assumption | exact Eq.symm Oa | omega | (simp;done) | (simp;omega)) | exact .dfzM rfl (λ_=>rfl) (λ_=>rfl) (by first | assumption | exact Eq.symm Oa | omega | (simp;done) | (simp;omega)) | exact .any | exact .pp | apply Cv.agg | apply Cv.tup | apply Cv.fn))
  (m:CvS sto ρ S b:=by repeat' (first | exact CvS.nil | apply CvS.cons rfl rfl | exact .arr rfl | exact CvO.same (dpM λ_=>rfl) | apply CvO.rowAt (λ_=>rfl) | apply CvO.box | exact CvL.nil | apply CvL.cons | exact CvL.numbers _ | exact CvL.bools _ | exact .lit | exact .own rfl | exact .sl | exact .nil | exact .ptr rfl | exact .ownE rfl (by first | assumption | exact Eq.symm Oa | omega | (simp;done) | (simp;omega)) | exact .frzM rfl (by first | assumption | exact Eq.symm Oa | omega | (simp;done) | (simp;omega)) | exact .dfzM rfl (λ_=>rfl) (λ_=>rfl) (by first | assumption | exact Eq.symm Oa | omega | (simp;done) | (simp;omega))))
  (h:okC ρ (a++b) S.length=true:=by rfl)(e:QgF sto ρ=true:=by rfl)(n:Qa4 ρ S.length nxt g++QdP sto (a++b)=us:=by apply updG;apply updS rfl;all_goals (repeat' (first | exact cuN | apply cuA rfl | apply cuB rfl rfl | apply cuZ rfl | exact frzN | apply frzC rfl))):Qv P o env sto nxt ⟨ren (phi ρ S.length nxt) r,us,ρ.map (·.2)++(a++b),idb g S.length-S.length⟩:=n▸m_cG ρ p.h j k i s m h e
end
section
variable{T G:Prop}
theorem au(k:G)(h:Wr G->T:=by
  intro hG
  repeat (show Q0 _ _ (_ :: _) _ _;first
   | refine noA ?_ | refine noB ?_
   | refine goA m_move ?_ | refine goA m_loadW ?_ | refine goA m_loadP ?_ | refine goA m_loadA ?_ | refine goA m_set ?_
   | (show Q0 _ _ (⟨_,.binOp _ _ _ _ _,_,_,_,_⟩ :: _) _ _;first | refine goA m_add ?_ | refine goA m_lss ?_ | refine goA m_sub ?_ | refine goA m_eql ?_ | refine goA m_neq ?_ | refine goA m_leq ?_ | refine goA m_gtr ?_ | refine goA m_geq ?_ | refine goA m_mul ?_ | refine goA m_shrA ?_ | refine goA m_shlA ?_ | refine goA m_bits ?_ | refine goA m_quoA ?_ | refine goA m_remA ?_ | refine goA m_eqBA ?_ | refine goA m_neBA ?_ | refine goA m_eqS ?_ | refine goA m_neS ?_)
   | (show Q0 _ _ (⟨_,.call _,_,_,_,_⟩ :: _) _ _;first | refine goA m_lenA ?_ | refine goA m_cSA ?_ | refine goA m_cGA ?_)
   | (show Q0 _ _ (⟨_,.indexAddr _ _ _,_,_,_,_⟩ :: _) _ _;first | refine goA m_iaSA ?_ | refine goA m_iaOA ?_)
   | refine goA m_faA ?_ | refine goA m_ldOA ?_ | refine goA m_ext ?_ | refine goA m_nil ?_ | refine goA QfY ?_ | refine goA QfZ ?_ | refine goA Qf0 ?_ | refine goA Qf2 ?_ | refine goA m_boxA ?_ | refine goA Qf1 ?_ | refine goA m_pickA ?_ | refine goA m_not ?_ | refine goA m_cnvA ?_ | refine goA m_neg ?_ | refine goA m_xorE ?_ | refine goA m_func ?_)
  first
   | refine .nil ⟨Ok,?_⟩ | refine .nil ⟨⟨Ok,Ok⟩,?_⟩
   | refine .nil ⟨⟨Ok,Ok,by repeat' (first | exact trivial | exact rfl | exact .inl rfl | exact .inr rfl | refine And.intro ?_ ?_)⟩,?_⟩
   | skip
  repeat (first
   | refine Qen ?_ | refine Qcy ?_ | refine Qep ?_ | refine Qcx ?_ | refine a_k Oa ?_)
  exact hG.get):T:=h ⟨k⟩
theorem ar(k:G)(h:Wr G->T:=by
  intro hG
  repeat (first
   | refine Qen ?_ | refine Qcy ?_ | refine Qep ?_ | refine Qcx ?_ | refine a_k Oa ?_)
  (first | refine b_rs ?_ | refine b_as ?_ | refine b_rg ?_ | refine b_ay ?_)
  repeat (show Q0 _ _ (_ :: _) _ _;first
   | refine noA ?_ | refine noB ?_
   | refine goA m_move ?_ | refine goA m_loadW ?_ | refine goA m_loadP ?_ | refine goA m_loadA ?_ | refine goA m_set ?_
   | (show Q0 _ _ (⟨_,.binOp _ _ _ _ _,_,_,_,_⟩ :: _) _ _;first | refine goA m_add ?_ | refine goA m_lss ?_ | refine goA m_sub ?_ | refine goA m_eql ?_ | refine goA m_neq ?_ | refine goA m_leq ?_ | refine goA m_gtr ?_ | refine goA m_geq ?_ | refine goA m_mul ?_ | refine goA m_shrA ?_ | refine goA m_shlA ?_ | refine goA m_bits ?_ | refine goA m_quoA ?_ | refine goA m_remA ?_ | refine goA m_eqBA ?_ | refine goA m_neBA ?_ | refine goA m_eqS ?_ | refine goA m_neS ?_)
   | (show Q0 _ _ (⟨_,.call _,_,_,_,_⟩ :: _) _ _;first | refine goA m_lenA ?_ | refine goA m_cSA ?_ | refine goA m_cGA ?_)
   | (show Q0 _ _ (⟨_,.indexAddr _ _ _,_,_,_,_⟩ :: _) _ _;first | refine goA m_iaSA ?_ | refine goA m_iaOA ?_)
   | refine goA m_faA ?_ | refine goA m_ldOA ?_ | refine goA m_ext ?_ | refine goA m_nil ?_ | refine goA QfY ?_ | refine goA QfZ ?_ | refine goA Qf0 ?_ | refine goA Qf2 ?_ | refine goA m_boxA ?_ | refine goA Qf1 ?_ | refine goA m_pickA ?_ | refine goA m_not ?_ | refine goA m_cnvA ?_ | refine goA m_neg ?_ | refine goA m_xorE ?_ | refine goA m_func ?_)
  first
   | refine .nil ⟨Ok,?_⟩ | refine .nil ⟨⟨Ok,Ok⟩,?_⟩
   | refine .nil ⟨⟨Ok,Ok,by repeat' (first | exact trivial | exact rfl | exact .inl rfl | exact .inr rfl | refine And.intro ?_ ?_)⟩,?_⟩
   | skip
  repeat (first
   | refine Qen ?_ | refine Qcy ?_ | refine Qep ?_ | refine Qcx ?_ | refine a_k Oa ?_)
  exact hG.get):T:=h ⟨k⟩
theorem ca(k:G)(h:Wr G->T:=by
  intro hG
  first | refine a_condA ?_ | refine a_condC ?_
  repeat (first
   | refine Qen ?_ | refine Qcy ?_ | refine Qep ?_ | refine Qcx ?_ | refine a_k Oa ?_)
  exact hG.get):T:=h ⟨k⟩
theorem cb(k:G)(h:Wr G->T:=by
  intro hG
  first | refine a_condB ?_ | refine a_condD ?_
  repeat (first
   | refine Qen ?_ | refine Qcy ?_ | refine Qep ?_ | refine Qcx ?_ | refine a_k Oa ?_)
  exact hG.get):T:=h ⟨k⟩
theorem da(k:G)(h:Wr G->T:=by
  intro hG
  first | refine a_condA ?_ | refine a_condC ?_
  repeat (first
   | refine Qen ?_ | refine Qcy ?_ | refine Qep ?_ | refine Qcx ?_ | refine a_k Oa ?_)
  (first | refine b_rs ?_ | refine b_as ?_ | refine b_rg ?_ | refine b_ay ?_)
  repeat (show Q0 _ _ (_ :: _) _ _;first
   | refine noA ?_ | refine noB ?_
   | refine goA m_move ?_ | refine goA m_loadW ?_ | refine goA m_loadP ?_ | refine goA m_loadA ?_ | refine goA m_set ?_
   | (show Q0 _ _ (⟨_,.binOp _ _ _ _ _,_,_,_,_⟩ :: _) _ _;first | refine goA m_add ?_ | refine goA m_lss ?_ | refine goA m_sub ?_ | refine goA m_eql ?_ | refine goA m_neq ?_ | refine goA m_leq ?_ | refine goA m_gtr ?_ | refine goA m_geq ?_ | refine goA m_mul ?_ | refine goA m_shrA ?_ | refine goA m_shlA ?_ | refine goA m_bits ?_ | refine goA m_quoA ?_ | refine goA m_remA ?_ | refine goA m_eqBA ?_ | refine goA m_neBA ?_ | refine goA m_eqS ?_ | refine goA m_neS ?_)
   | (show Q0 _ _ (⟨_,.call _,_,_,_,_⟩ :: _) _ _;first | refine goA m_lenA ?_ | refine goA m_cSA ?_ | refine goA m_cGA ?_)
   | (show Q0 _ _ (⟨_,.indexAddr _ _ _,_,_,_,_⟩ :: _) _ _;first | refine goA m_iaSA ?_ | refine goA m_iaOA ?_)
   | refine goA m_faA ?_ | refine goA m_ldOA ?_ | refine goA m_ext ?_ | refine goA m_nil ?_ | refine goA QfY ?_ | refine goA QfZ ?_ | refine goA Qf0 ?_ | refine goA Qf2 ?_ | refine goA m_boxA ?_ | refine goA Qf1 ?_ | refine goA m_pickA ?_ | refine goA m_not ?_ | refine goA m_cnvA ?_ | refine goA m_neg ?_ | refine goA m_xorE ?_ | refine goA m_func ?_)
  first
   | refine .nil ⟨Ok,?_⟩ | refine .nil ⟨⟨Ok,Ok⟩,?_⟩
   | refine .nil ⟨⟨Ok,Ok,by repeat' (first | exact trivial | exact rfl | exact .inl rfl | exact .inr rfl | refine And.intro ?_ ?_)⟩,?_⟩
   | skip
  repeat (first
   | refine Qen ?_ | refine Qcy ?_ | refine Qep ?_ | refine Qcx ?_ | refine a_k Oa ?_)
  exact hG.get):T:=h ⟨k⟩
theorem db(k:G)(h:Wr G->T:=by
  intro hG
  first | refine a_condB ?_ | refine a_condD ?_
  repeat (first
   | refine Qen ?_ | refine Qcy ?_ | refine Qep ?_ | refine Qcx ?_ | refine a_k Oa ?_)
  (first | refine b_rs ?_ | refine b_as ?_ | refine b_rg ?_ | refine b_ay ?_)
  repeat (show Q0 _ _ (_ :: _) _ _;first
   | refine noA ?_ | refine noB ?_
   | refine goA m_move ?_ | refine goA m_loadW ?_ | refine goA m_loadP ?_ | refine goA m_loadA ?_ | refine goA m_set ?_
   | (show Q0 _ _ (⟨_,.binOp _ _ _ _ _,_,_,_,_⟩ :: _) _ _;first | refine goA m_add ?_ | refine goA m_lss ?_ | refine goA m_sub ?_ | refine goA m_eql ?_ | refine goA m_neq ?_ | refine goA m_leq ?_ | refine goA m_gtr ?_ | refine goA m_geq ?_ | refine goA m_mul ?_ | refine goA m_shrA ?_ | refine goA m_shlA ?_ | refine goA m_bits ?_ | refine goA m_quoA ?_ | refine goA m_remA ?_ | refine goA m_eqBA ?_ | refine goA m_neBA ?_ | refine goA m_eqS ?_ | refine goA m_neS ?_)
   | (show Q0 _ _ (⟨_,.call _,_,_,_,_⟩ :: _) _ _;first | refine goA m_lenA ?_ | refine goA m_cSA ?_ | refine goA m_cGA ?_)
   | (show Q0 _ _ (⟨_,.indexAddr _ _ _,_,_,_,_⟩ :: _) _ _;first | refine goA m_iaSA ?_ | refine goA m_iaOA ?_)
   | refine goA m_faA ?_ | refine goA m_ldOA ?_ | refine goA m_ext ?_ | refine goA m_nil ?_ | refine goA QfY ?_ | refine goA QfZ ?_ | refine goA Qf0 ?_ | refine goA Qf2 ?_ | refine goA m_boxA ?_ | refine goA Qf1 ?_ | refine goA m_pickA ?_ | refine goA m_not ?_ | refine goA m_cnvA ?_ | refine goA m_neg ?_ | refine goA m_xorE ?_ | refine goA m_func ?_)
  first
   | refine .nil ⟨Ok,?_⟩ | refine .nil ⟨⟨Ok,Ok⟩,?_⟩
   | refine .nil ⟨⟨Ok,Ok,by repeat' (first | exact trivial | exact rfl | exact .inl rfl | exact .inr rfl | refine And.intro ?_ ?_)⟩,?_⟩
   | skip
  repeat (first
   | refine Qen ?_ | refine Qcy ?_ | refine Qep ?_ | refine Qcx ?_ | refine a_k Oa ?_)
  exact hG.get):T:=h ⟨k⟩
theorem resW{P:Program}{a:DSt}{t d k z:Nat}{b:TyD}{y:List DV}{f e:Bool}{l:List ResultVar}{ds:List DV}(m:QB P d b)(j:a.env.get t = .ptr k 0 0)(c:b.agg=true)(i:a.sto.get k=some ⟨z,f,e,[y]⟩)(g:y.length=b.size)(h:ResL P a l ds):ResL P a (.cell t d :: l) (.agg y :: ds):=by refine .cell m j i rfl ?_ h;unfold ldD;rw[if_pos c,UN,if_pos Oo,<- g,WQ]
structure QdW(ρ:Ren):Prop where
theorem finF{P:Program}{f:Func}{n0:Nat}{r:DV}{d:Sto}{e:Exit}{c:DSt}{ds:List DV}{a b:List Nat}{ρ:Ren}(l:QdW ρ)
  (h:ResL P c f.results.toList ds)
  (j:Cv c.sto ρ (resV ds) r a:=by repeat' (first | exact .lit | exact .own rfl | exact .sl | exact .nil | exact .ptr rfl | exact .ownE rfl (by first | assumption | exact Eq.symm Oa | omega | (simp;done) | (simp;omega)) | exact .frzM rfl (by first | assumption | exact Eq.symm Oa | omega | (simp;done) | (simp;omega)) | exact .dfzM rfl (λ_=>rfl) (λ_=>rfl) (by first | assumption | exact Eq.symm Oa | omega | (simp;done) | (simp;omega)) | exact CvL.nil | apply CvL.cons | apply Cv.agg | apply Cv.tup | apply Cv.fn | exact .any | exact .pp))
  (i:CvS c.sto ρ d b:=by repeat' (first | exact CvS.nil | apply CvS.cons rfl rfl | exact .arr rfl | exact CvO.same (dpM λ_=>rfl) | apply CvO.rowAt (λ_=>rfl) | apply CvO.box | exact CvL.nil | apply CvL.cons | exact CvL.numbers _ | exact CvL.bools _ | exact .lit | exact .own rfl | exact .sl | exact .nil | exact .ptr rfl | exact .ownE rfl (by first | assumption | exact Eq.symm Oa | omega | (simp;done) | (simp;omega)) | exact .frzM rfl (by first | assumption | exact Eq.symm Oa | omega | (simp;done) | (simp;omega)) | exact .dfzM rfl (λ_=>rfl) (λ_=>rfl) (by first | assumption | exact Eq.symm Oa | omega | (simp;done) | (simp;omega)) | exact .any | exact .pp))
  (k:okR ρ (a++b) n0 (idb d n0)=true:=by rfl)
  (g:e = .normal\/e = .ret:=by first | exact .inr rfl | exact .inl rfl):RetD P f n0 r d e c:=finE ρ h j i k g
theorem fe(ρ:Ren)(h:QdW ρ->T:=by
  intro hρ
  first | refine Qeo ?_ | skip
  intro H
  have e:=se H
  subst e
  change RetD _ _ _ _ _ _ _
  exact finF hρ (.nil)):T:=h ⟨⟩
theorem ft(ρ:Ren)(h:QdW ρ->T:=by
  intro hρ
  first | refine Qeo ?_ | skip
  intro H
  have e:=se H
  subst e
  change RetD _ _ _ _ _ _ _
  exact finF hρ (.tmp .nil)):T:=h ⟨⟩
theorem ftt(ρ:Ren)(h:QdW ρ->T:=by
  intro hρ
  first | refine Qeo ?_ | skip
  intro H
  have e:=se H
  subst e
  change RetD _ _ _ _ _ _ _
  exact finF hρ (.tmp (.tmp .nil))):T:=h ⟨⟩
theorem fttt(ρ:Ren)(h:QdW ρ->T:=by
  intro hρ
  first | refine Qeo ?_ | skip
  intro H
  have e:=se H
  subst e
  change RetD _ _ _ _ _ _ _
  exact finF hρ (.tmp (.tmp (.tmp .nil)))):T:=h ⟨⟩
theorem Qb1(ρ:Ren)(h:QdW ρ->T:=by
  intro hρ
  first | refine Qeo ?_ | skip
  intro H
  have e:=se H
  subst e
  change RetD _ _ _ _ _ _ _
  exact finF hρ (.tmp (.tmp (.tmp (.tmp (.tmp .nil)))))):T:=h ⟨⟩
theorem fw(ρ:Ren)(h:QdW ρ->T:=by
  intro hρ
  first | refine Qeo ?_ | skip
  intro H
  have e:=se H
  subst e
  change RetD _ _ _ _ _ _ _
  exact finF hρ (resW TyI.ok rfl rfl rfl rfl .nil)):T:=h ⟨⟩
theorem fwt(ρ:Ren)(h:QdW ρ->T:=by
  intro hρ
  first | refine Qeo ?_ | skip
  intro H
  have e:=se H
  subst e
  change RetD _ _ _ _ _ _ _
  exact finF hρ (resW TyI.ok rfl rfl rfl rfl (.tmp .nil))):T:=h ⟨⟩
theorem fww(ρ:Ren)(h:QdW ρ->T:=by
  intro hρ
  first | refine Qeo ?_ | skip
  intro H
  have e:=se H
  subst e
  change RetD _ _ _ _ _ _ _
  exact finF hρ (resW TyI.ok rfl rfl rfl rfl (resW TyI.ok rfl rfl rfl rfl .nil))):T:=h ⟨⟩
theorem fwtt(ρ:Ren)(h:QdW ρ->T:=by
  intro hρ
  first | refine Qeo ?_ | skip
  intro H
  have e:=se H
  subst e
  change RetD _ _ _ _ _ _ _
  exact finF hρ (resW TyI.ok rfl rfl rfl rfl (.tmp (.tmp .nil)))):T:=h ⟨⟩
theorem fwwt(ρ:Ren)(h:QdW ρ->T:=by
  intro hρ
  first | refine Qeo ?_ | skip
  intro H
  have e:=se H
  subst e
  change RetD _ _ _ _ _ _ _
  exact finF hρ (resW TyI.ok rfl rfl rfl rfl (resW TyI.ok rfl rfl rfl rfl (.tmp .nil)))):T:=h ⟨⟩
theorem ftwt(ρ:Ren)(h:QdW ρ->T:=by
  intro hρ
  first | refine Qeo ?_ | skip
  intro H
  have e:=se H
  subst e
  change RetD _ _ _ _ _ _ _
  exact finF hρ (.tmp (resW TyI.ok rfl rfl rfl rfl (.tmp .nil)))):T:=h ⟨⟩
theorem fwttt(ρ:Ren)(h:QdW ρ->T:=by
  intro hρ
  first | refine Qeo ?_ | skip
  intro H
  have e:=se H
  subst e
  change RetD _ _ _ _ _ _ _
  exact finF hρ (resW TyI.ok rfl rfl rfl rfl (.tmp (.tmp (.tmp .nil))))):T:=h ⟨⟩
theorem ftw(ρ:Ren)(h:QdW ρ->T:=by
  intro hρ
  first | refine Qeo ?_ | skip
  intro H
  have e:=se H
  subst e
  change RetD _ _ _ _ _ _ _
  exact finF hρ (.tmp (resW TyI.ok rfl rfl rfl rfl .nil))):T:=h ⟨⟩
theorem fwttwt(ρ:Ren)(h:QdW ρ->T:=by
  intro hρ
  first | refine Qeo ?_ | skip
  intro H
  have e:=se H
  subst e
  change RetD _ _ _ _ _ _ _
  exact finF hρ (resW TyI.ok rfl rfl rfl rfl (.tmp (.tmp (resW TyI.ok rfl rfl rfl rfl (.tmp .nil)))))):T:=h ⟨⟩
end
end Go.Proofs.YthadnbdbfpggdaaGreatDoor
