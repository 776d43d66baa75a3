/- Parts of the proof. No condition. -/
import Derived.Test.YtkfnkecgcdhncaaGreatQM0
import Derived.Test.YtkfnkecgcdhncaaGreatQM1
import Derived.KernelRfl
import Derived.Laws.StructEq
import Derived.IntWalk
import Derived.Test.YtkfnkecgcdhncaaGreatRows
import Derived.Maps.AppendAt
import Derived.Deep.QuietTactic
import Derived.BigQuiet
import Derived.Shelf.Spec.SlicesInsertGrow
import Derived.Laws.AppendOwn
import Derived.Laws.CopyRow
import Derived.Laws.Externs
namespace Go.Proofs.YtkfnkecgcdhncaaGreat
open Go.RowKit
set_option linter.unusedSimpArgs false
set_option linter.unusedVariables false
theorem Qcy{α:Type}{l:List α}{i:Nat}{a:α}(h:l[i]?=some a):i<l.length:=by
 rcases Ws i l.length with h' | h'
 ·~h'
 ·rw [Wg h'] at h;cases h
def setC(els:List (List DV))(i j:Nat)(d:DV):List (List DV):=els.set i ((els.getD i []).set j d)
theorem Qfg{els:List (List DV)}{i j:Nat}{x:List DV}{d0 d:DV}(hx:els[i]?=some x)(hj:x[j]?=some d0){i' j':Nat}{x':List DV}{d':DV}(h1:(setC els i j d)[i']?=some x')(h2:x'[j']?=some d') :
  (i'=i/\j'=j/\d'=d)\/(¬ (i'=i/\j'=j)/\∃ x0,els[i']?=some x0/\x0[j']?=some d'):=by
 have hi:=Qcy hx
 have hjl:=Qcy hj
 unfold setC at h1
 have e:els.getD i []=x:=by rw [VI,hx];rfl
 rw [e] at h1
 by_cases hii:i'=i
 ·subst hii
  rw [WD hi] at h1
  injection h1 with h1
  subst h1
  by_cases hjj:j'=j
  ·subst hjj
   rw [WD hjl] at h2
   injection h2 with h2
   ~.inl ⟨rfl,rfl,h2.symm⟩
  ·rw [WC (λh=>hjj h.symm)] at h2
   ~.inr ⟨λh=>hjj h.2,x,hx,h2⟩
 ·rw [WC (λh=>hii h.symm)] at h1
  ~.inr ⟨λh=>hii h.1,x',h1,h2⟩
theorem setC_sz{els:List (List DV)}{i j:Nat}{x:List DV}{d:DV}(hx:els[i]?=some x){z:Nat}(h:∀ (i:Nat) x,els[i]?=some x->x.length=z){i':Nat}{x':List DV}(h1:(setC els i j d)[i']?=some x'):x'.length=z:=by
 have e:els.getD i []=x:=by rw [VI,hx];rfl
 unfold setC at h1
 rw [e] at h1
 by_cases hii:i'=i
 ·subst hii
  rw [WD (Qcy hx)] at h1
  injection h1 with h1
  subst h1
  rw [Wv]
  ~h _ _ hx
 ·rw [WC (λh=>hii h.symm)] at h1
  ~h _ _ h1
theorem setC_len{els:List (List DV)}{i j:Nat}{d:DV}:(setC els i j d).length=els.length:=by simp [setC]
section
variable{F:Fm}{m:Mem}
theorem Qaj{ob:Ob}{g cap:Nat}(r:Row m ob g cap){i j:Nat}{x:List DV}{d:DV}(hx:ob.els[i]?=some x)(hj:x[j]?=some d):∃ u,m.w.cell? ⟨g,i*ob.esz+j,none⟩=some u/\QgN m ob.arr u d:=by
 ð⟨cur,T,c1,c2,c3⟩:=r.cells
 ð⟨u,hu,h⟩:=c3 i x j d hx hj
 ~⟨u,by rw [cell_of_row m.w g _ cur T (0,0) c1];~hu,h⟩
theorem QcW{m':Mem}{ob ob':Ob}{g cap:Nat}(r:Row m ob g cap)(hw:m'.w=m.w)(hz:ob'.esz=ob.esz)(hl:ob'.els.length=ob.els.length)(hs:∀ (i:Nat) x,ob'.els[i]?=some x->x.length=ob.esz)
  (h:∀ (i:Nat) x (j:Nat) d u,ob'.els[i]?=some x->x[j]?=some d->m.w.cell? ⟨g,i*ob.esz+j,none⟩=some u->QgN m' ob'.arr u d):Row m' ob' g cap:=by
 ð⟨cur,T,c1,c2,c3⟩:=r.cells
 &⟨⟨cur,T,by rw [hw];~c1,by rw [hz];~c2,λi x j d hx hd=>?_⟩,by rw [hl];~r.len,r.max,by rw [hz];~r.pos,λi x hx=>by rw [hz];~hs i x hx⟩
 have h1:=Qcy hx
 rw [hl] at h1
 have hlen:=r.sz i _ (Wa h1)
 have h2:=hs i x hx
 have h3:=Qcy hd
 ð⟨u,hu,_⟩:=c3 i _ j _ (Wa h1) (Wa (show j<ob.els[i].length by omega))
 rw [hz]
 ~⟨u,hu,h i x j d u hx hd (by rw [cell_of_row m.w g _ cur T (0,0) c1];~hu)⟩
theorem deep_split(hI:Inv F m){s t:Nat}{ob:Ob}(hs:Holds m s ob)(ha:ob.arr=false)(ht:m.σ t=none){i j z:Nat}{x:List DV}{l:List (List DV)}(hx:ob.els[i]?=some x)(hj:x[j]?=some (.dp z l)) :
  ∃ m' e g cap u,m'.w=m.w/\m'.M=m.M/\Inv F m'/\Loc [s,t] m m'/\m.σ s=some (some e)/\e.blk=some (g,cap)/\m.w.cell? ⟨g,i*ob.esz+j,none⟩=some u/\Rep m' u (.own t 0 l.length) /\
   Holds m' s { ob with els:=setC ob.els i j (.own t 0 l.length) }/\Holds m' t ⟨z,true,ob.frz,l⟩:=by
 ð⟨e,h1,h2,h3,h4⟩:=hs
 have hst:s≠t:=λh=>by subst h;rw [h1] at ht;cases ht
 cases hb:e.blk with
 | none =>
  rw [hb] at h4
  rw [h4.1] at hx
  simp at hx
 | some p =>
  ð⟨g,cap⟩:=p
  rw [hb] at h4
  ð⟨r,B,d1,d2⟩:=h4
  ð⟨u,u1,u2⟩:=d1 i x j z l hx hj
  let e':Ent:={ e with inn:=λk=>e.inn k/\B i j≠some k }
  have key:∃ et:Ent,et.esz=z/\et.mu=e.mu/\et.inn=noI/\(∀ k,et.has k->B i j=some k/\e.inn k)/\(∀ m':Mem,m'.w=m.w->Ext m m'->m'.σ t=some (some et)->Rep m' u (.own t 0 l.length)/\Holds m' t ⟨z,true,ob.frz,l⟩):=by
   cases hB:B i j with
   | none =>
    rw [hB] at u2
    ð⟨rfl,rfl,hz⟩:=u2
    ~⟨⟨z,none,e.mu,noI⟩,rfl,rfl,rfl,λk h=>by rcases h with ⟨c,h⟩ | h;cases h;~h.elim,λm' hw he hσ=>⟨.ownNil hσ rfl,⟨_,hσ,rfl,h3,rfl,hz⟩⟩⟩
   | some b =>
    rw [hB] at u2
    ð⟨q1,cp,rfl,q3⟩:=u2
    &⟨⟨z,some (b,cp),e.mu,noI⟩,rfl,rfl,rfl,λk h=>?_,λm' hw he hσ=>⟨?_,⟨_,hσ,rfl,h3,?_⟩⟩⟩
    ·rcases h with ⟨c,h⟩ | h
     ·injection h with h
      injection h with h _
      subst h
      ~⟨rfl,q1⟩
     ·~h.elim
    ·have:=Rep.own (m:=m') (off:=0) (len:=l.length) hσ rfl (by have:=q3.len;dsimp only at this ⊢;omega) q3.max
     simpa using this
    ·have row:Row m' ⟨z,true,ob.frz,l⟩ b cp:=QcW q3 hw rfl rfl q3.sz (λi x j d u hx hd hu=>by
      ð⟨u',k1,k2⟩:=Qaj q3 hx hd
      rw [show i*(⟨z,true,false,l⟩:Ob).esz+j=i*z+j from rfl] at k1 hu
      rw [k1] at hu
      injection hu with hu
      subst hu
      ~k2.ext he)
     ~⟨row,row.deep rfl _⟩
  ð⟨et,t1,t2,t3,t4,t5⟩:=key
  have one:∀ s1∈[s,t],∀ e1,ZN (ZN m.σ s (some e')) t (some et) s1=some (some e1)->(s1=s/\e1=e')\/(s1=t/\e1=et):=λs1 hs1 e1 h=>by
   rcases Wt.1 hs1 with rfl | hs1
   ·rw [QZ _ _ hst,Qi] at h
    injection h with h
    injection h with h
    ~.inl ⟨rfl,h.symm⟩
   ·obtain rfl:s1=t:=by simpa using hs1
    rw [Qi] at h
    injection h with h
    injection h with h
    ~.inr ⟨rfl,h.symm⟩
  have sub:∀ k,e'.has k->e.has k/\B i j≠some k:=λk h=>by
   rcases h with ⟨c,h⟩ | h
   ·&⟨.inl ⟨c,h⟩,λhB=>?_⟩
    have h:e.blk=some (k,c):=h
    rw [hb] at h
    injection h with h
    injection h with h _
    subst h
    rw [hB] at u2
    ~hI.wf s e _ cap h1 hb u2.1
   ·~⟨.inr h.1,h.2⟩
  have hT:=turn hI [s,t] m.w (ZN (ZN m.σ s (some e')) t (some et)) rfl rfl rfl (Wl _) (λ_ _ _=>rfl)
   (λk hk=>by rw [QZ _ _ (λh=>hk (by simp [h])),QZ _ _ (λh=>hk (by simp [h]))])
   (λs1 hs1 x0 hx0=>by
    rcases Wt.1 hs1 with rfl | hs1
    ·rw [h1] at hx0
     injection hx0 with hx0
     subst hx0
     ~⟨_,by rw [QZ _ _ hst,Qi],λe1 h=>by injection h with h;subst h;~⟨e,rfl,rfl,rfl⟩⟩
    ·obtain rfl:s1=t:=by simpa using hs1
     rw [ht] at hx0;cases hx0)
   (λs1 hs1 e1 k g1 g2=>by
    &.inl ⟨s,Os,e,h1,?_⟩
    rcases one s1 hs1 e1 g1 with ⟨rfl,rfl⟩ | ⟨rfl,rfl⟩
    ·ð⟨p1,p2⟩:=sub k g2
     &⟨p1,λh=>h,λs2 hs2 e2 q1 q2=>?_⟩
     rcases one s2 hs2 e2 q1 with ⟨rfl,_⟩ | ⟨rfl,rfl⟩
     ·rfl
     ·~absurd (t4 k q2).1 p2
    ·ð⟨p1,p2⟩:=t4 k g2
     &⟨.inr p2,λh=>by rw [<- t2];~h,λs2 hs2 e2 q1 q2=>?_⟩
     rcases one s2 hs2 e2 q1 with ⟨rfl,rfl⟩ | ⟨rfl,_⟩
     ·~absurd p1 (sub k q2).2
     ·rfl)
   (λs1 hs1 e1 g0 c0 g1 g2=>by
    rcases one s1 hs1 e1 g1 with ⟨rfl,rfl⟩ | ⟨rfl,rfl⟩
    ·~λh=>hI.wf s1 e g0 c0 h1 g2 h.1
    ·rw [t3];~id)
  have hσs:(ZN (ZN m.σ s (some e')) t (some et)) s=some (some e'):=by rw [QZ _ _ hst,Qi]
  ð⟨v1,v2⟩:=t5 ⟨m.w,m.M,ZN (ZN m.σ s (some e')) t (some et)⟩ rfl hT.2.toExt (Qi _ _ _)
  &⟨⟨m.w,m.M,ZN (ZN m.σ s (some e')) t (some et)⟩,e,g,cap,u,rfl,rfl,hT.1,hT.2,h1,hb,u1,v1,⟨e',hσs,h2,h3,?_⟩,v2⟩
  show match e.blk with | none=>_ | some (g,cap)=>_
  rw [hb]
  &⟨QcW (ob':={ ob with els:=setC ob.els i j (.own t 0 l.length) }) r rfl rfl setC_len (λi' x' h=>setC_sz hx r.sz h) (λi' x' j' d' u' q1 q2 q3=>?_),B,λi' x' j' z' l' q1 q2=>?_,λi1 j1 i2 j2 b hb=>d2 i1 j1 i2 j2 b hb.1⟩
  ·dsimp only at q1 ⊢
   rcases Qfg hx hj q1 q2 with ⟨rfl,rfl,rfl⟩ | ⟨_,x0,k1,k2⟩
   ·rw [u1] at q3
    injection q3 with q3
    subst q3
    ð⟨u0,w1,w2⟩:=Qaj r hx hj
    rw [u1] at w1
    injection w1 with w1
    subst w1
    &⟨w2.1,?_⟩
    rw [ha]
    ~v1
   ·ð⟨u0,w1,w2⟩:=Qaj r k1 k2
    rw [q3] at w1
    injection w1 with w1
    subst w1
    ~w2.ext hT.2.toExt
  ·dsimp only at q1 ⊢
   rcases Qfg hx hj q1 q2 with ⟨_,_,h⟩ | ⟨hne,x0,k1,k2⟩
   ·cases h
   ·ð⟨u0,w1,w2⟩:=d1 i' x0 j' z' l' k1 k2
    &⟨u0,w1,?_⟩
    cases hB:B i' j' with
    | none=>rw [hB] at w2;~w2
    | some b =>
     rw [hB] at w2
     ð⟨p1,cp,p2,p3⟩:=w2
     ~⟨⟨p1,λh=>hne (d2 i' j' i j b p1 hB h)⟩,cp,p2,p3.ext hT.2.toExt rfl⟩
theorem deep_join(hI:Inv F m){s t:Nat}{ob:Ob}{z:Nat}{l:List (List DV)}(hs:Holds m s ob)(ha:ob.arr=false)(hf:ob.frz=false)(hh:Holds m t ⟨z,true,false,l⟩)(hst:s≠t){i j:Nat}{x:List DV}(hx:ob.els[i]?=some x)(hj:x[j]?=some (.own t 0 l.length)) :
  ∃ m',m'.w=m.w/\m'.M=m.M/\Inv F m'/\Loc [s,t] m m'/\Holds m' s { ob with els:=setC ob.els i j (.dp z l) }/\m'.σ t=some none:=by
 ð⟨e,h1,h2,h3,h4⟩:=hs
 cases hb:e.blk with
 | none =>
  rw [hb] at h4
  rw [h4.1] at hx
  simp at hx
 | some p =>
  ð⟨g,cap⟩:=p
  rw [hb] at h4
  ð⟨r,B,d1,d2⟩:=h4
  ð⟨u,u1,u2⟩:=Qaj r hx hj
  have u3:Rep m u (.own t 0 l.length):=by have:=u2.2;rw [ha] at this;~this
  ð⟨et,t1,t2,t3,t4⟩:=X5 u3 hh
  let e':Ent:={ e with inn:=λk=>e.inn k\/∃ c,et.blk=some (k,c) }
  have hne:∀ k,e.has k->∀ c,et.blk≠some (k,c):=λk hk c h=>hst (hI.inj s t e et k h1 t1 hk (Ent.has_blk h))
  have one:∀ s1∈[s,t],∀ e1,ZN (ZN m.σ t none) s (some e') s1=some (some e1)->s1=s/\e1=e':=λs1 hs1 e1 h=>by
   rcases Wt.1 hs1 with rfl | hs1
   ·rw [Qi] at h
    injection h with h
    injection h with h
    ~⟨rfl,h.symm⟩
   ·obtain rfl:s1=t:=by simpa using hs1
    rw [QZ _ _ (λh=>hst h.symm),Qi] at h
    cases h
  have hT:=turn hI [s,t] m.w (ZN (ZN m.σ t none) s (some e')) rfl rfl rfl (Wl _) (λ_ _ _=>rfl)
   (λk hk=>by rw [QZ _ _ (λh=>hk (by simp [h])),QZ _ _ (λh=>hk (by simp [h]))])
   (λs1 hs1 x0 hx0=>by
    rcases Wt.1 hs1 with rfl | hs1
    ·rw [h1] at hx0
     injection hx0 with hx0
     subst hx0
     ~⟨_,Qi _ _ _,λe1 h=>by injection h with h;subst h;~⟨e,rfl,rfl,rfl⟩⟩
    ·obtain rfl:s1=t:=by simpa using hs1
     ~⟨none,by rw [QZ _ _ (λh=>hst h.symm),Qi],λe1 h=>by cases h⟩)
   (λs1 hs1 e1 k g1 g2=>by
    ð⟨rfl,rfl⟩:=one s1 hs1 e1 g1
    have un:∀ s2∈[s1,t],∀ e2,ZN (ZN m.σ t none) s1 (some e') s2=some (some e2)->e2.has k->s2=s1:=λs2 hs2 e2 q1 _=>(one s2 hs2 e2 q1).1
    rcases g2 with g2 | g2 | g2
    ·~.inl ⟨s1,Os,e,h1,.inl g2,λh=>h,un⟩
    ·~.inl ⟨s1,Os,e,h1,.inr g2,λh=>h,un⟩
    ·~.inl ⟨t,Os,et,t1,.inl g2,λ_=>by rw [t3];rfl,un⟩)
   (λs1 hs1 e1 g0 c0 g1 g2=>by
    ð⟨rfl,rfl⟩:=one s1 hs1 e1 g1
    rintro (h | ⟨c,h⟩)
    ·~hI.wf s1 e g0 c0 h1 g2 h
    ·~hne g0 (Ent.has_blk g2) c h)
  have hcell:DpV ⟨m.w,m.M,ZN (ZN m.σ t none) s (some e')⟩ e'.inn u z l (et.blk.map (·.1)):=by
   rcases t4 with ⟨g',cap',k4,rfl,k5,k6⟩ | ⟨k4,rfl,_,k5,k6,k7⟩
   ·rw [k4]
    &⟨.inr ⟨cap',k4⟩,cap',Os,k6.ext hT.2.toExt rfl⟩
   ·rw [k4]
    ~⟨rfl,k6,k7⟩
  &⟨⟨m.w,m.M,ZN (ZN m.σ t none) s (some e')⟩,rfl,rfl,hT.1,hT.2,⟨e',Qi _ _ _,h2,h3,?_⟩,by show ZN _ _ _ t=_;rw [QZ _ _ (λh=>hst h.symm),Qi]⟩
  show match e.blk with | none=>_ | some (g,cap)=>_
  rw [hb]
  classical
  &⟨QcW (ob':={ ob with els:=setC ob.els i j (.dp z l) }) r rfl rfl setC_len (λi' x' h=>setC_sz hx r.sz h) (λi' x' j' d' u' q1 q2 q3=>?_),
   λi' j'=>if i'=i/\j'=j then et.blk.map (·.1) else if (B i' j').isSome/\B i' j'=et.blk.map (·.1) then none else B i' j',λi' x' j' z' l' q1 q2=>?_,λi1 j1 i2 j2 b hbb q1 q2=>?_⟩
  ·dsimp only at q1 ⊢
   rcases Qfg hx hj q1 q2 with ⟨rfl,rfl,rfl⟩ | ⟨_,x0,k1,k2⟩
   ·rw [u1] at q3
    injection q3 with q3
    subst q3
    &⟨u2.1,?_⟩
    rw [ha]
    ~.dp u
   ·ð⟨u0,w1,w2⟩:=Qaj r k1 k2
    rw [q3] at w1
    injection w1 with w1
    subst w1
    ~w2.ext hT.2.toExt
  ·dsimp only at q1 ⊢
   rcases Qfg hx hj q1 q2 with ⟨rfl,rfl,hd⟩ | ⟨hne',x0,k1,k2⟩
   ·injection hd with hd1 hd2
    subst hd1
    subst hd2
    ~⟨u,u1,by rw [if_pos ⟨rfl,rfl⟩];~hcell⟩
   ·ð⟨u0,w1,w2⟩:=d1 i' x0 j' z' l' k1 k2
    &⟨u0,w1,?_⟩
    rw [if_neg hne']
    cases hB:B i' j' with
    | none=>rw [hB] at w2;rw [if_neg (λh=>by simp at h)];~w2
    | some b =>
     rw [hB] at w2
     ð⟨p1,cp,p2,p3⟩:=w2
     rw [if_neg (λh=>by
      cases hbt:et.blk with
      | none=>rw [hbt] at h;simp at h
      | some q =>
       ð⟨b',c'⟩:=q
       rw [hbt] at h
       have:=h.2
       simp only [Wu,Wx] at this
       subst this
       ~hne b (.inr p1) c' hbt)]
     ~⟨.inl p1,cp,p2,p3.ext hT.2.toExt rfl⟩
  ·dsimp only at q1 q2
   have other:∀ {i' j' b},¬ (i'=i/\j'=j)->(if (B i' j').isSome/\B i' j'=et.blk.map (·.1) then none else B i' j')=some b->B i' j'=some b/\et.blk.map (·.1)≠some b:=λ{i' j' b} _ h=>by
    split at h
    ·cases h
    ·rename_i hq
     ~⟨h,λh'=>hq ⟨by rw [h];rfl,by rw [h,h']⟩⟩
   by_cases e1:i1=i/\j1=j
   ·rw [if_pos e1] at q1
    by_cases e2:i2=i/\j2=j
    ·~⟨e1.1.trans e2.1.symm,e1.2.trans e2.2.symm⟩
    ·rw [if_neg e2] at q2
     ~absurd q1 (other e2 q2).2
   ·rw [if_neg e1] at q1
    ð⟨k1,k2⟩:=other e1 q1
    by_cases e2:i2=i/\j2=j
    ·rw [if_pos e2] at q2
     ~absurd q2 k2
    ·rw [if_neg e2] at q2
     ð⟨k3,_⟩:=other e2 q2
     have hin:e.inn b:=by
      rcases hbb with h | ⟨c,h⟩
      ·~h
      ·rw [h] at k2;~absurd rfl k2
     ~d2 i1 j1 i2 j2 b hin k1 k3
theorem holds_unarr{s z:Nat}{f:Bool}{els:List (List DV)}(hs:Holds m s ⟨z,true,f,els⟩):Holds m s ⟨z,false,f,els⟩:=by
 ð⟨e,h1,h2,h3,h4⟩:=hs
 &⟨e,h1,h2,h3,?_⟩
 cases hb:e.blk with
 | none=>rw [hb] at h4;~h4
 | some p =>
  ð⟨g,cap⟩:=p
  rw [hb] at h4
  ð⟨r,_⟩:=h4
  &⟨QcW r rfl rfl rfl r.sz λi x j d u hx hd hu=>?_,Deep.flat λi x j z' xs hx hd=>?_⟩
  ·ð⟨u0,w1,w2⟩:=Qaj r hx hd
   dsimp only at hu w1
   rw [hu] at w1
   injection w1 with w1
   subst w1
   ~⟨w2.1,.pure w2.2⟩
  ·ð⟨u0,w1,w2⟩:=Qaj r hx hd
   cases w2.2
end
section
variable{P:Program}{nt n0:Nat}{env:Env}{sto:Sto}{nxt:Nat}
theorem ZM.att{s t z z0 i j:Nat}{x:List DV}{els els':List (List DV)}{l:List (List DV)}(hs:sto.get s=some ⟨z0,false,false,els⟩)(ht:sto.get t=some ⟨z,true,false,l⟩)(hst:Nat.beq s t=false)(hx:els[i]?=some x)(hj:x[j]?=some (.own t 0 l.length))(he:setC els i j (.dp z l)=els') :
  ZM n0 ⟨env,sto,nxt⟩ ⟨env,(s,⟨z0,false,false,els'⟩) :: sto.drop t,nxt⟩:=λC _ a w hS=>by
 subst he
 have hst':s≠t:=YL hst
 ð⟨m,rfl,hm,hF⟩:=hS
 ð⟨m',k1,k2,k3,k4,k5,k6⟩:=deep_join hm.inv (hm.sto s _ hs) rfl rfl (hm.sto t _ ht) hst' hx hj
 &⟨m',k1,⟨k3,k2.trans hm.M,hm.size,hm.defers,hm.org.trans k4.ent,hm.lim0,λk=>(hm.env k).ext k4.toExt,λs' ob hs'=>?_⟩,λs' hs'=>?_⟩
 ·simp only [Sto.get_cons,Sto.drop_get] at hs'
  split at hs'
  ·rename_i h
   subst h
   injection hs' with hs'
   subst hs'
   ~k5
  ·rename_i h
   split at hs'
   ·cases hs'
   ·rename_i h2
    ~Holds.loc hm.inv k4 (by simp [h,h2]) (hm.sto s' ob hs')
 ·have h1:=hF s' hs'
  have e1:s'≠s:=λh=>by subst h;ð⟨e,he,_⟩:=hm.sto s' _ hs;rw [h1] at he;cases he
  have e2:s'≠t:=λh=>by subst h;ð⟨e,he,_⟩:=hm.sto s' _ ht;rw [h1] at he;cases he
  rw [k4.same s' (by simp [e1,e2])]
  ~h1
theorem ZM.tell{s:Nat}{ob ob':Ob}(hs:sto.get s=some ob)(h:∀ m:Mem,Holds m s ob->Holds m s ob'):ZM n0 ⟨env,sto,nxt⟩ ⟨env,(s,ob') :: sto,nxt⟩:=λC _ a w hS=>by
 ð⟨m,rfl,hm,hF⟩:=hS
 &⟨m,rfl,⟨hm.inv,hm.M,hm.size,hm.defers,hm.org,hm.lim0,hm.env,λs' ob1 hs'=>?_⟩,hF⟩
 simp only [Sto.get_cons] at hs'
 split at hs'
 ·rename_i h1
  subst h1
  injection hs' with hs'
  subst hs'
  ~h m (hm.sto _ _ hs)
 ·~hm.sto s' ob1 hs'
theorem ZM.unarr{s z0:Nat}{els:List (List DV)}(hs:sto.get s=some ⟨z0,true,false,els⟩):ZM n0 ⟨env,sto,nxt⟩ ⟨env,(s,⟨z0,false,false,els⟩) :: sto,nxt⟩:=ZM.tell hs λm h=>holds_unarr h
end
section
variable{P:Program}{F:Fm}{m:Mem}{a:Act}{env:Env}{sto:Sto}{nxt:Nat}{o:Oper}
theorem r_ldD{t:Nat}{p:Operand}{td:TyD}{s i j z:Nat}{ob:Ob}{x:List DV}{l:List (List DV)}(ho:o.op = .load t p)(ht:QF P t td)(hag:td.agg=false)(hsz:td.size=1)(hp:opd env p = .ptr s i j)(hs:sto.get s=some ob)(ha:ob.arr=false)(hx:ob.els[i]?=some x)(hj:x[j]?=some (.dp z l)) :
  Qv P o env sto nxt ⟨.own nxt 0 l.length,[(s,some { ob with els:=setC ob.els i j (.own nxt 0 l.length) }),(nxt,some ⟨z,true,ob.frz,l⟩)],[s],1⟩:=.ran λF m a hI hE hH hF=>by
 have h1:=hE p (by simp [ho,Op.operands])
 rw [hp] at h1
 have hS:=hH s Os ob hs
 have hn:=hF nxt (Wl _) (by show nxt<nxt+1;omega)
 ð⟨m',e,g,cap,u,k1,k2,k3,k4,k5,k6,k7,k8,k9,k10⟩:=deep_split hI hS ha hn hx hj
 ð⟨e2,g2,cap2,q1,_,_,q2,q3,q4⟩:=QbR h1 hS
 rw [k5] at q1
 injection q1 with q1
 injection q1 with q1
 subst q1
 rw [k6] at q2
 injection q2 with q2
 injection q2 with q2 q2'
 subst q2
 have hca:QdG m' g (i*ob.esz+j) [.own nxt 0 l.length]:=λj' d hd=>by
  cases j' with
  | zero =>
   simp only [WJ,Wx] at hd
   subst hd
   ~⟨u,by rw [k1];~k7,k8⟩
  | succ j'=>simp at hd
 ð⟨v,v1,v2⟩:=load_ok (P:=P) ht hca (y:=.own nxt 0 l.length) (by unfold ldD;rw [hag,hsz];rfl)
 rw [k1] at v1
 &⟨v,m',.inl (by rw [k1];simp [execOp,ho,q3,v1]),k3,k4,v2,λp hp=>?_⟩
 rcases Wt.1 hp with rfl | hp
 ·~k9
 ·obtain rfl:=Wo.1 hp
  ~k10
theorem r_litR{t e len:Nat}{parts:Array (Nat×Operand)}{l:List (Nat×Operand)}{tt td:TyD}{cells:List DV}{r r2:List Nat}(ho:o.op = .buildSlice t len parts)(hp:parts=l.toArray)(ht:QF P t tt)(hk:tt.k = .slice e)(he:QF P e td)
  (hz:td.zero.length=td.size)(h0:0<td.size)(h1:0<len)(hm:len*td.size<=16777216)
  (h:Qds sto (λi=>some (i*td.size,td.size)) (Qdk td len) (l.map λp=>(p.1,opd env p.2))=some (cells,r))(hb:boxF sto cells=some r2) :
  Qv P o env sto nxt ⟨.own nxt 0 len,[(nxt,some ⟨td.size,false,false,Qbd len td.size cells⟩)],r++r2,1⟩:=.ran λF m a hI hE hH hF=>by
 subst hp
 ð⟨i,z,z1,z2,z3,z4,z5,z6,_⟩:=QbN he
 have hu:=ht.kind
 rw [hk] at hu
 have hsz:z.cells.size=td.size:=by rw [<- hz,<- z5];simp
 have hHr:QU m sto r:=λs hs=>hH s (Wf _ hs)
 have hHu:QU m sto r2:=λs hs=>hH s (Wj _ hs)
 have hzr:Reps m (madeCells z.cells (len*td.size)).toList (Qdk td len):=by
  &⟨by rw [WG,size_madeCells];simp [Qdk],λj v d hv hd=>?_⟩
  have hj:j<len*td.size:=by
   rcases Ws j (len*td.size) with h' | h'
   ·~h'
   ·rw [Wg (by simpa [Qdk] using h')] at hd;cases hd
  have hv':(madeCells z.cells (len*td.size))[j]?=some v:=by simpa using hv
  rw [QbT Oo hj,hsz] at hv'
  unfold Qdk at hd
  rw [Wh,VB hj] at hd
  injection hd with hd
  have hv2:z.cells.toList[j%td.size]?=some v:=by simpa using hv'
  rw [<- hd]
  dsimp only
  rw [<- z5,VI,Wh,hv2]
  ~.pure (.lit v (z6 v (by simpa using List.mem_of_getElem? hv2)))
 ð⟨vs,k1,k2⟩:=Qfy (parts:=l) (λp hp=>hE p.2 (by simp only [ho,Op.operands];simp;~⟨p.1,hp⟩)) hzr h hHr
 rw [UU] at k1
 have hcl:cells.length=len*td.size:=by rw [fillD_len h];simp [Qdk]
 have hrun:=run_buildSlice (P:=P) m.w t e len (l.map λp=>(p.1,a.eval p.2)).toArray vs.toArray i z hu z1 z4 (by rw [z2];omega) (by rw [z2];have:=Nat.mul_pos h1 h0;omega) (by
  rw [z2]
  have:(Array.range (len*td.size)).map (λx=>z.cells[x%z.cells.size]!)=madeCells z.cells (len*td.size):=rfl
  rw [this]
  simpa using k1)
 have hmx:len<=maxLen:=by
  have:len<=len*td.size:=YJ _ h0
  unfold maxLen
  omega
 &Ran.new hI (hF nxt (Wl _) (by show nxt<nxt+1;omega)) (cur:=vs.toArray) (T:=e) (v:=.slice (some ⟨m.w.heap.size,0,none⟩) len len) (cap:=len) ?_ (λm' h=>?_) rfl (λm' he' hg=>?_) (.inr λi x j z' xs q1 q2=>?_)
 ·simp only [execOp,ho]
  rw [show (l.toArray.map λ(x:Nat×Operand)=>match x with | (i,x)=>(i,a.eval x))=(l.map λp=>(p.1,a.eval p.2)).toArray from by simp]
  rw [Sem.run_bind]
  show ((Instr.buildSlice t len _).run P m.w).andThen _=_
  rw [hrun]
  rfl
 ·have:=Rep.own (m:=m') (off:=0) (len:=len) h rfl Oo hmx
  simpa using this
 ·&Qdl he' (ds:=cells) (arr:=false) k2.1 (λj v d hv hd=>⟨box_one (Qex hb) hHu j d v hd (k2.2 j v d hv hd),k2.2 j v d hv hd⟩) hg (by rw [hcl]) h0 hmx (by simp [Qbd]) (λj x hx=>?_)
  have hj:j<len:=by
   rcases Ws j len with h' | h'
   ·~h'
   ·rw [Wg (by simpa [Qbd] using h')] at hx;cases hx
  unfold Qbd at hx
  rw [Wh,VB hj] at hx
  injection hx with hx
  subst hx
  have hle:(j+1)*td.size<=len*td.size:=WB _ hj
  rw [Vq] at hle
  &⟨by rw [Wi,Ww,hcl];omega,λq d hd=>?_⟩
  rw [WL] at hd
  split at hd
  ·rwa [W2] at hd
  ·cases hd
 ·dsimp only at q1
  have hi:i<len:=by
   rcases Ws i len with h' | h'
   ·~h'
   ·rw [Wg (by simpa [Qbd] using h')] at q1;cases q1
  unfold Qbd at q1
  rw [Wh,VB hi] at q1
  injection q1 with q1
  subst q1
  rw [WL] at q2
  split at q2
  ·rw [W2] at q2
   ~(Qex hb).nodp _ _ _ q2
  ·cases q2
theorem deep_flat(hI:Inv F m){s z:Nat}{f:Bool}{els:List (List DV)}(hs:Holds m s ⟨z,false,f,els⟩)(hd:∀ x∈els,∀ d∈x,dpB d=true) :
  ∃ m',m'.w=m.w/\m'.M=m.M/\Inv F m'/\Loc [s] m m'/\Holds m' s ⟨z,true,f,els.map (·.map undp)⟩:=by
 ð⟨e,h1,h2,h3,h4⟩:=hs
 obtain ⟨e',he'⟩:∃ e':Ent,e'={ e with inn:=noI }:=⟨_,rfl⟩
 have f1:e'.esz=e.esz:=by rw [he']
 have f2:e'.blk=e.blk:=by rw [he']
 have f3:e'.mu=e.mu:=by rw [he']
 have f4:e'.inn=noI:=by rw [he']
 clear he'
 have one:∀ s1∈[s],∀ e1,ZN m.σ s (some e') s1=some (some e1)->s1=s/\e1=e':=λs1 hs1 e1 h=>by
  obtain rfl:s1=s:=by simpa using hs1
  rw [Qi] at h
  injection h with h
  injection h with h
  ~⟨rfl,h.symm⟩
 have hT:=turn hI [s] m.w (ZN m.σ s (some e')) rfl rfl rfl (Wl _) (λ_ _ _=>rfl) (λk hk=>QZ _ _ (by simpa using hk))
  (λs1 hs1 x hx=>by
   obtain rfl:s1=s:=by simpa using hs1
   rw [h1] at hx
   injection hx with hx
   subst hx
   ~⟨_,Qi _ _ _,λe1 h=>by injection h with h;subst h;~⟨e,rfl,f1,f2⟩⟩)
  (λs1 hs1 e1 k g1 g2=>by
   ð⟨rfl,rfl⟩:=one s1 hs1 e1 g1
   &.inl ⟨s1,Os,e,h1,?_,λh=>by rw [<- f3];~h,λs2 hs2 e2 q _=>(one s2 hs2 e2 q).1⟩
   rcases g2 with ⟨c,g2⟩ | g2
   ·~.inl ⟨c,by rw [<- f2];~g2⟩
   ·rw [f4] at g2;~g2.elim)
  (λs1 hs1 e1 k c g1 _=>by
   ð⟨rfl,rfl⟩:=one s1 hs1 e1 g1
   rw [f4];~id)
 &⟨⟨m.w,m.M,ZN m.σ s (some e')⟩,rfl,rfl,hT.1,hT.2,⟨_,Qi _ _ _,by rw [f1];~h2,by rw [f3];~h3,?_⟩⟩
 rw [f2]
 cases hb:e.blk with
 | none=>rw [hb] at h4;~⟨by rw [show els=[] from h4.1];rfl,h4.2⟩
 | some p =>
  ð⟨g,cap⟩:=p
  rw [hb] at h4
  ð⟨r,B,d1,d2⟩:=h4
  have hno:∀ k,(⟨m.w,m.M,ZN m.σ s (some e')⟩:Mem).no k->m.no k:=λk h=>by
   rcases h with h | ⟨s',e',q1,q2,q3⟩
   ·~.inl h
   ·dsimp only at q1
    by_cases hss:s'=s
    ·subst hss
     rw [Qi] at q1
     injection q1 with q1
     injection q1 with q1
     subst q1
     &.inr ⟨s',e,h1,by rw [<- f3];~q2,?_⟩
     rcases q3 with ⟨c,q3⟩ | q3
     ·~.inl ⟨c,by rw [<- f2];~q3⟩
     ·rw [f4] at q3;~q3.elim
    ·rw [QZ _ _ hss] at q1
     ~.inr ⟨s',e',q1,q2,q3⟩
  have hin:∀ b,e.inn b->¬ (⟨m.w,m.M,ZN m.σ s (some e')⟩:Mem).no b:=λb hbi h=>by
   rcases h with h | ⟨s',e',q1,q2,q3⟩
   ·~(hI.at_ s e b h1 (.inr hbi)).2.1 h
   ·dsimp only at q1
    by_cases hss:s'=s
    ·subst hss
     rw [Qi] at q1
     injection q1 with q1
     injection q1 with q1
     subst q1
     rcases q3 with ⟨c,q3⟩ | q3
     ·~hI.wf s' e b c h1 (by rw [<- f2];~q3) hbi
     ·rw [f4] at q3;~q3
    ·rw [QZ _ _ hss] at q1
     ~hss (hI.inj s s' e e' b h1 q1 (.inr hbi) q3).symm
  have row:Row ⟨m.w,m.M,ZN m.σ s (some e')⟩ ⟨z,true,f,els.map (·.map undp)⟩ g cap:=QcW r rfl rfl Os (λi x hx=>?_) (λi x j d u hx hdd hu=>?_)
  ·~⟨row,row.deep rfl _⟩
  ·rw [Wh] at hx
   cases hq:els[i]? with
   | none=>rw [hq] at hx;cases hx
   | some x0 =>
    rw [hq] at hx
    injection hx with hx
    subst hx
    rw [Wb]
    ~r.sz i x0 hq
  ·rw [Wh] at hx
   cases hq:els[i]? with
   | none=>rw [hq] at hx;cases hx
   | some x0 =>
    rw [hq] at hx
    injection hx with hx
    subst hx
    rw [Wh] at hdd
    cases hq2:x0[j]? with
    | none=>rw [hq2] at hdd;cases hdd
    | some d0 =>
     rw [hq2] at hdd
     injection hdd with hdd
     subst hdd
     ð⟨u',w1,w2⟩:=Qaj r hq hq2
     rw [hu] at w1
     injection w1 with w1
     subst w1
     &⟨w2.1,?_⟩
     have hr2:Rep m u d0:=w2.2
     have hp:∀ {v d},PRep m.w m.no v d->PRep m.w (⟨m.w,m.M,ZN m.σ s (some e')⟩:Mem).no v d:=λh=>PRep.ext (Wl _) (λk _ hk=>⟨rfl,λh=>hk (hno k h)⟩) h
     have hb:=hd x0 (Wp hq) d0 (Wp hq2)
     show PRep m.w _ u (undp d0)
     cases d0 with
     | lit v=>rw [hr2.lit_inv];~.lit v hr2.lit_one
     | sl xs=>~hp hr2.sl_inv
     | dp z' l =>
      ð⟨u',k1,k2⟩:=d1 i x0 j z' l hq hq2
      rw [hu] at k1
      injection k1 with k1
      subst k1
      cases hB:B i j with
      | none =>
       rw [hB] at k2
       ð⟨rfl,rfl,_⟩:=k2
       ~.nil _ _ (WT _)
      | some b =>
       rw [hB] at k2
       ð⟨q1,cp,rfl,q3⟩:=k2
       have:=QbS (off:=0) (len:=l.length) q3 rfl (hin b q1) hno Os
       simpa [undp] using this
     | _=>cases hb
theorem news_mk{ob:Ob}{g cap len:Nat}(r:Row m ob g cap)(hl:len<=ob.els.length):∃ news:List Value,news.length=len*ob.esz/\(∀ j u,news[j]?=some u->m.w.cell? ((⟨g,0,none⟩:Addr).add j)=some u)/\(∀ u∈news,u.oneCell'=true) /\
  ∀ (i:Nat) y (j:Nat) d,(ob.els.take len)[i]?=some y->y[j]?=some d->∃ u,news[i*ob.esz+j]?=some u/\QgN m ob.arr u d:=by
 ð⟨cur,T,c1,c2,c3⟩:=r.cells
 have hpos:=r.pos
 have hfit:len*ob.esz<=cur.size:=by rw [c2];~WB _ (Ug hl r.len)
 &⟨cur.toList.take (len*ob.esz),by rw [Wi,WG];omega,λj u hu=>?_,λu hu=>?_,λi y j d hy hd=>?_⟩
 ·rw [WL] at hu
  split at hu
  ·rw [add_lit,WS,cell_of_row m.w g j cur T (0,0) c1];simpa using hu
  ·cases hu
 ·ð⟨p,hp⟩:=Vd.1 hu
  rw [WL] at hp
  split at hp
  ·rename_i hlt
   have h1:p/ob.esz<len:=Vt (by rw [VE];~hlt)
   have h2:p%ob.esz<ob.esz:=UV _ hpos
   have hx:=Wa (show p/ob.esz<ob.els.length by omega)
   have hsz:=r.sz _ _ hx
   ð⟨u',k1,k2⟩:=c3 _ _ _ _ hx (Wa (show p%ob.esz<(ob.els[p/ob.esz]).length by omega))
   rw [Nat.div_add_mod' p ob.esz] at k1
   have:cur[p]?=some u:=by simpa using hp
   rw [k1] at this
   injection this with this
   subst this
   ~k2.1
  ·cases hp
 ·rw [WL] at hy
  split at hy
  ·rename_i hi
   ð⟨u,hu,hr⟩:=c3 i y j d hy hd
   have hsz:=r.sz i y hy
   have hj:=Qcy hd
   have hle:(i+1)*ob.esz<=len*ob.esz:=WB _ hi
   rw [Vq] at hle
   ~⟨u,by rw [Uy Oo];simpa using hu,hr⟩
  ·cases hy
def noDpB(els:List (List DV)):Bool:=els.all λx=>x.all λd=>match d with | .dp _ _=>false | _=>true
theorem noDpB_ok{els:List (List DV)}(h:noDpB els=true):∀ (i:Nat) x (j:Nat) z l,els[i]?=some x->x[j]?=some (.dp z l)->False:=λi x j z l hx hd=>by
 unfold noDpB at h
 have:=WY.1 h x (Wp hx)
 have:=WY.1 this _ (Wp hd)
 cases this
theorem r_appR{t e:Nat}{s x:Operand}{tt td:TyD}{k k2 len len2:Nat}{ob ob2:Ob}(ho:o.op = .call ⟨.builtin .append,#[s,x],#[t,t]⟩)(ht:QF P t tt)(hk:tt.k = .slice e)(he:QF P e td)(hs:opd env s = .own k 0 len)(hg:sto.get k=some ob)(hx:opd env x = .own k2 0 len2)(hg2:sto.get k2=some ob2)
  (hf:ob.frz=false)(ha:ob.arr=false)(hl:len<=ob.els.length)(hl2:len2<=ob2.els.length)(hez:ob.esz=td.size)(hez2:ob2.esz=td.size)(hnd:noDpB (ob2.els.take len2)=true)(hz:td.zero.length=td.size)(h0:0<td.size)(hb:(len+len2)*td.bytes<=140737488355328)(h63:len+len2<=maxLen) :
  Qv P o env sto nxt ⟨.own nxt 0 (len+len2),[(k,none),(nxt,some ⟨td.size,false,false,ob.els.take len++ob2.els.take len2⟩)],[k,k2],1⟩:=.ran λF m a hI hE hH hF=>by
 have h1:=hE s (by simp [ho,Op.operands,Call.operands])
 have h2:=hE x (by simp [ho,Op.operands,Call.operands])
 rw [hs] at h1
 rw [hx] at h2
 have hnew:=hF nxt (Wl _) (by show nxt<nxt+1;omega)
 have hHk:=hH k Os ob hg
 ð⟨en,k1,kz,k3,k4⟩:=X5 h1 hHk
 ð⟨en2,_,_,_,j4⟩:=X5 h2 (hH k2 Os ob2 hg2)
 have hmu:en.mu=true:=by rw [k3,hf];rfl
 have hne:k≠nxt:=λh=>by subst h;rw [hnew] at k1;cases k1
 have hsv:(∃ g cap,en.blk=some (g,cap)/\a.eval s = .slice (some ⟨g,0,none⟩) len cap/\len<=cap/\cap<=maxLen/\∃ cur T,m.w.heap[g]?=some (.cells cur T (0,0))/\cur.size=cap*td.size)\/(en.blk=none/\a.eval s = .slice none 0 0/\len=0):=by
  rcases k4 with ⟨g,cap,k4,hsv,k5,k6⟩ | ⟨k4,hsv,_,h,_⟩
  ·rw [Un,Uw] at hsv
   ð⟨cur,T,c1,c2,_⟩:=k6.cells
   rw [hez] at c2
   ~.inl ⟨g,cap,k4,hsv,Oo,k6.max,cur,T,c1,c2⟩
  ·~.inr ⟨k4,hsv,h⟩
 have hvn:∃ ad c,∃ news:List Value,a.eval x = .slice ad len2 c/\(len2=0\/∃ b off,ad=some ⟨b,off,none⟩/\news.length=len2*td.size/\(∀ j u,news[j]?=some u->m.w.cell? ((⟨b,off,none⟩:Addr).add j)=some u)/\∀ u∈news,u.oneCell'=true) /\
   ∀ (i:Nat) y (j:Nat) d,(ob2.els.take len2)[i]?=some y->y[j]?=some d->∃ u,news[i*td.size+j]?=some u/\u.oneCell'=true/\Rep m u d:=by
  rcases j4 with ⟨g,cap,_,hv,_,r⟩ | ⟨_,hv,_,h,h',_⟩
  ·rw [Un] at hv
   ð⟨news,n1,n2,n3,n4⟩:=news_mk r hl2
   rw [hez2] at n1 n4
   &⟨_,_,news,hv,.inr ⟨g,0,rfl,n1,n2,n3⟩,λi y j d hy hd=>?_⟩
   ð⟨u,hu,hr⟩:=n4 i y j d hy hd
   &⟨u,hu,hr.1,?_⟩
   have:=hr.2
   split at this
   ·~.pure this
   ·~this
  ·subst h
   ~⟨_,_,[],hv,.inl rfl,λi y j d hy=>by simp at hy⟩
 ð⟨ad,c,news,hv,hn,n4⟩:=hvn
 ð⟨v,w',hrun,w1,w2,w3,w4,w5,w6⟩:=app_raw ho ht hk he hsv hv hn hz h0 hb h63
 have hlt':(ob.els.take len).length=len:=by rw [Wi];omega
 have hlt2:(ob2.els.take len2).length=len2:=by rw [Wi];omega
 have upd:∀ {e':Ent},Holds ⟨w',m.M,ZN (ZN m.σ k none) nxt (some e')⟩ nxt ⟨td.size,false,false,ob.els.take len++ob2.els.take len2⟩->∀ p∈[(k,none),(nxt,some (⟨td.size,false,false,ob.els.take len++ob2.els.take len2⟩:Ob))],Upd ⟨w',m.M,ZN (ZN m.σ k none) nxt (some e')⟩ p:=λq p hp=>by
  rcases Wt.1 hp with rfl | hp
  ·show ZN (ZN m.σ k none) nxt _ k=some none
   rw [QZ _ _ hne,Qi]
  ·obtain rfl:=Wo.1 hp
   ~q
 rcases w6 with ⟨rfl,h6,h7⟩ | ⟨g',cap',cur',T',rfl,q1,q2,q3,q4,q5,q6,q7⟩
 ·have hT:=QdM hI k1 hmu hnew w' ⟨td.size,none,true,noI⟩ w1 w2 w3 w4 w5 (λg' c' h=>by cases h)
  &⟨_,⟨w',m.M,ZN (ZN m.σ k none) nxt (some ⟨td.size,none,true,noI⟩)⟩,.inl hrun,hT.1,hT.2,?_,upd ⟨_,Qi _ _ _,rfl,rfl,?_⟩⟩
  ·rw [h6,h7];~.ownNil (Qi _ _ _) rfl
  ·rw [h6,h7];~⟨Os,h0⟩
 ·have hbi:∀ b,en.inn b->b≠g':=λb hb h=>by
   subst h
   rcases q1 with ⟨c',h⟩ | ⟨h,_⟩
   ·~hI.wf k en b c' k1 h hb
   ·have:=(hI.at_ k en b k1 (.inr hb)).1;omega
  have hT:=turn_moveD hI k1 hmu hnew w' ⟨td.size,some (g',cap'),true,en.inn⟩ w1 w2 w3 w4 (λj hj h=>w5 j hj λc hc=>h (.inl ⟨c,hc⟩)) (λg1 h=>by
   rcases h with ⟨c',h⟩ | h
   ·injection h with h
    injection h with h1 h2
    subst h1
    rcases q1 with ⟨c',h⟩ | h
    ·~.inl (.inl ⟨c',h⟩)
    ·~.inr h
   ·~.inl (.inr h)) (λg1 c' h hi=>by
   injection h with h
   injection h with h1 h2
   ~hbi g1 hi h1.symm)
  have old:∀ (i:Nat) x,(ob.els.take len)[i]?=some x->x.length=td.size/\ob.els[i]?=some x/\∀ (j:Nat) d,x[j]?=some d->∃ g cap u,en.blk=some (g,cap)/\Row m ob g cap/\cur'[i*td.size+j]?=some u/\m.w.cell? ⟨g,i*ob.esz+j,none⟩=some u/\QgN m false u d:=λi x hx=>by
   rw [WL] at hx
   split at hx
   ·rename_i hi
    rcases k4 with ⟨g,cap,k4,_,k5,k6⟩ | ⟨_,_,_,h,_⟩
    ·have hl:=k6.sz i x hx
     rw [hez] at hl
     &⟨hl,hx,λj d hd=>?_⟩
     ð⟨cur,T,c1,c2,c3⟩:=k6.cells
     ð⟨u,hu,hr⟩:=c3 i x j d hx hd
     have hj:=Qcy hd
     have hle:(i+1)*td.size<=len*td.size:=WB _ hi
     rw [Vq] at hle
     rw [ha] at hr
     &⟨g,cap,u,k4,k6,?_,by rw [cell_of_row m.w g _ cur T (0,0) c1];~hu,hr⟩
     rw [hez] at hu
     rw [q6 _ g cap cur T k4 c1 Oo];~hu
    ·omega
   ·cases hx
  have row:Row ⟨w',m.M,ZN (ZN m.σ k none) nxt (some ⟨td.size,some (g',cap'),true,en.inn⟩)⟩ ⟨td.size,false,false,ob.els.take len++ob2.els.take len2⟩ g' cap':=row_twoR q4 q5 q3 h0 (by rw [hlt',hlt2];~q2) (λi x hx=>?_) (λi y hy=>⟨?_,λj d hd=>?_⟩)
  ·&⟨_,_,.inl hrun,hT.1,hT.2,own_mem (Qi _ _ _) rfl q2 q3,upd (Holds.of (Qi _ _ _) rfl rfl rfl row ?_)⟩
   cases hbk:en.blk with
   | none =>
    &Deep.flat λi x j z l hx hd=>?_
    by_cases hi:i<(ob.els.take len).length
    ·dsimp only at hx
     rw [WM hi] at hx
     ð⟨_,_,k⟩:=old i x hx
     ð⟨_,_,_,h,_⟩:=k j _ hd
     rw [hbk] at h;cases h
    ·dsimp only at hx
     rw [WO Oo] at hx
     ~noDpB_ok hnd _ _ _ _ _ hx hd
   | some p =>
    ð⟨g,cap⟩:=p
    ð⟨B,d1,d2⟩:=deep_get hHk k1 hbk
    &⟨B,λi x j z l hx hd=>?_,d2⟩
    dsimp only at hx ⊢
    by_cases hi:i<(ob.els.take len).length
    ·rw [WM hi] at hx
     ð⟨_,o1,kk⟩:=old i x hx
     ð⟨g2,cap2,u,o2,_,o3,o4,_⟩:=kk j _ hd
     rw [hbk] at o2
     injection o2 with o2
     injection o2 with o2 _
     subst o2
     ð⟨u',e1,e2⟩:=d1 i x j z l o1 hd
     rw [o4] at e1
     injection e1 with e1
     subst e1
     &⟨u,by rw [cell_of_row w' g' _ cur' T' (0,0) q4];~o3,?_⟩
     cases hB:B i j with
     | none=>rw [hB] at e2;~e2
     | some b =>
      rw [hB] at e2
      ð⟨p1,cp,p2,p3⟩:=e2
      &⟨p1,cp,p2,p3.ext hT.2.toExt ?_⟩
      ~w5 b (hI.at_ k en b k1 (.inr p1)).1 λc' hc=>hI.wf k en b c' k1 hc p1
    ·rw [WO Oo] at hx
     ~(noDpB_ok hnd _ _ _ _ _ hx hd).elim
  ·ð⟨o1,_,k⟩:=old i x hx
   ~⟨o1,λj d hd=>by
    ð⟨_,_,u,_,_,o3,_,o5⟩:=k j d hd
    ~⟨u,o3,o5.ext hT.2.toExt⟩⟩
  ·rw [WL] at hy
   split at hy
   ·rcases j4 with ⟨g,cap,_,_,_,r⟩ | ⟨_,_,_,_,h,_⟩
    ·rw [<- hez2];~r.sz i y hy
    ·rw [h] at hy;simp at hy
   ·cases hy
  ·ð⟨u,hu,hp1,hp2⟩:=n4 i y j d hy hd
   have hlt:i*td.size+j<news.length:=Qcy hu
   have hpos:0<len2:=by have:=Qcy hy;omega
   &⟨u,?_,hp1,hp2.ext hT.2.toExt⟩
   rw [hlt',Vv,Vf,q7 hpos _ hlt]
   ~hu
end
theorem dpM{α:Type}{cd:α->List DV}{l:List α}(h:∀ a,(cd a).all dpB=true):∀ x∈l.map cd,∀ d∈x,dpB d=true:=λx hx d hd=>by
 ð⟨a,_,rfl⟩:=Wk.1 hx
 ~WY.1 (h a) d hd
theorem CvL.same{sto:Sto}{ρ:Ren}:∀ {l:List DV},(∀ d∈l,dpB d=true)->CvL sto ρ l l []
 | [],_=>.nil
 | d :: l,h=>by
  have h1:=h d (WA ..)
  have h3:Cv sto ρ d d []:=by
   cases d with
   | lit v=>~.lit
   | sl xs=>~.sl
   | dp z l=>~.dp
   | _=>cases h1
  ~.cons h3 (CvL.same λd hd=>h d (Wm _ hd))
theorem CvO.rowAt{α:Type}{cd:α->List DV}{l:List α}{i:Nat}{row row':List DV}{sto:Sto}{ρ:Ren}{z:Nat}{fz:Bool}{r:List Nat}(h:∀ a,(cd a).all dpB=true)(hr:CvL sto ρ row row' r):CvO sto ρ ⟨z,false,fz,(l.map cd).set i row⟩ ⟨z,false,fz,(l.map cd).set i row'⟩ r :=
 .rows Os (λj x y hx hy=>by
  by_cases hj:i=j
  ·subst hj
   have hlt:=Qcy hx
   rw [Wv] at hlt
   rw [WD hlt] at hx hy
   injection hx with hx
   injection hy with hy
   subst hx
   subst hy
   ~⟨r,hr,λs hs=>hs⟩
  ·rw [WC hj] at hx hy
   rw [hx] at hy
   injection hy with hy
   subst hy
   ~⟨[],CvL.same (dpM h x (Wp hx)),λs hs=>by cases hs⟩) hr.known
theorem Cv.dfzM{α:Type}{cd c:α->List DV}{l:List α}{sto:Sto}{ρ:Ren}{s len z:Nat}{fz:Bool}(h:sto.get s=some ⟨z,false,fz,l.map cd⟩)(h1:∀ a,(cd a).map undp=c a)(h2:∀ a,(cd a).all dpB=true)(hl:len=l.length):Cv sto ρ (.own s 0 len) (.sl (l.map c)) [s] :=
 .dfz h rfl (dpM h2) (by rw [hl];simp) (by
  show (l.map cd).map _=_
  rw [W3]
  ~WW λa _=>h1 a)
theorem ZM.flat{α:Type}{cd c:α->List DV}{l:List α}{n0:Nat}{env:Env}{sto:Sto}{nxt s z:Nat}(hs:sto.get s=some ⟨z,false,false,l.map cd⟩)(h1:∀ a,(cd a).map undp=c a)(h2:∀ a,(cd a).all dpB=true):ZM n0 ⟨env,sto,nxt⟩ ⟨env,(s,⟨z,true,false,l.map c⟩) :: sto,nxt⟩:=λC _ a w hS=>by
 ð⟨m,rfl,hm,hF⟩:=hS
 ð⟨m',k1,k2,k3,k4,k5⟩:=deep_flat hm.inv (hm.sto s _ hs) (dpM h2)
 have e:(l.map cd).map (·.map undp)=l.map c:=by rw [W3];~WW λa _=>h1 a
 rw [e] at k5
 &⟨m',k1,⟨k3,k2.trans hm.M,hm.size,hm.defers,hm.org.trans k4.ent,hm.lim0,λk=>(hm.env k).ext k4.toExt,λs' ob hs'=>?_⟩,λs' hs'=>?_⟩
 ·simp only [Sto.get_cons] at hs'
  split at hs'
  ·rename_i h
   subst h
   injection hs' with hs'
   subst hs'
   ~k5
  ·rename_i h
   ~Holds.loc hm.inv k4 (by simpa using h) (hm.sto s' ob hs')
 ·have h1:=hF s' hs'
  have e1:s'≠s:=λh=>by subst h;ð⟨e,he,_⟩:=hm.sto s' _ hs;rw [h1] at he;cases he
  rw [k4.same s' (by simpa using e1)]
  ~h1
inductive Grd(ops:Array Oper)(o:Oper)(env:Env):Prop
 | none:o.guard=none->Grd ops o env
 | yes {g t:Nat} {b:Bool}:o.guard=some (g,b)->(ops[g]?).bind (·.dst)=some t->env.get t = .lit (.bool b)->Grd ops o env
section
variable{P:Program}{env:Env}{sto:Sto}{nxt:Nat}{o:Oper}{ops:Array Oper}{l:List Oper}{K:QfE->DSt->Prop}
theorem go{d:DV}{us:List (Nat×Option Ob)}{rs:List Nat}{n:Nat}(h:Qv P o env sto nxt ⟨d,us,rs,n⟩)
  (k:QV P ops l ⟨env.put o.dst d,sto.upd us,nxt+n⟩ λouts=>K ((⟨d,us,rs,n⟩,nxt) :: outs))(hg:Grd ops o env:=by first | ~.none rfl | ~.yes rfl rfl rfl):QV P ops (o :: l) ⟨env,sto,nxt⟩ K :=
 QV.cons' (by
  unfold Qd0
  cases hg with
  | none hn=>rw [hn];~h
  | yes h1 h2 h3=>rw [h1];~⟨_,h2,.inl ⟨h3,h⟩⟩) k
theorem no{g t:Nat}{b:Bool}(k:QV P ops l ⟨env.put o.dst .any,sto,nxt⟩ λouts=>K ((⟨.any,[],[],0⟩,nxt) :: outs))
  (hg:o.guard=some (g,b):=by rfl)(ht:(ops[g]?).bind (·.dst)=some t:=by rfl)(hb:env.get t = .lit (.bool (!b)):=by rfl):QV P ops (o :: l) ⟨env,sto,nxt⟩ K :=
 QV.cons' (out:=⟨.any,[],[],0⟩) (by unfold Qd0;rw [hg];~⟨t,ht,.inr (.inl ⟨.inl hb,.inl rfl⟩)⟩) k
theorem m_move{x:Operand}(ho:o.op = .move x:=by rfl):Qv P o env sto nxt ⟨opd env x,[],[],0⟩:=r_move ho
theorem m_set{x:Operand}(ho:o.op = .assign x:=by rfl):Qv P o env sto nxt ⟨opd env x,[],[],0⟩:=r_assign ho
theorem m_pick{c x y:Operand}{t:Bool}(ho:o.op = .pick c x y:=by rfl)(hc:opd env c = .lit (.bool t):=by rfl):Qv P o env sto nxt ⟨cond t (opd env x) (opd env y),[],[],0⟩:=by
 have:=r_pick (P:=P) (sto:=sto) (nxt:=nxt) ho hc
 cases t <;> ~this
theorem m_ext{x:Operand}{i:Nat}{xs:List DV}{d:DV}(ho:o.op = .extract x i:=by rfl)(hx:opd env x = .tup xs:=by rfl)(hi:xs[i]?=some d:=by rfl):Qv P o env sto nxt ⟨d,[],[],0⟩:=r_extract ho hx hi
theorem m_not{t:Nat}{x:Operand}{p:Bool}(ho:o.op = .unOp .not t x:=by rfl)(hx:opd env x = .lit (.bool p):=by rfl):Qv P o env sto nxt ⟨.lit (.bool (!p)),[],[],0⟩:=r_not ho hx
theorem m_func{f:Nat}{cap:Array Operand}{l:List Operand}(ho:o.op = .makeFunc (.func f) #[] cap:=by rfl)(hc:cap=l.toArray:=by rfl):Qv P o env sto nxt ⟨.fn f (l.map (opd env)),[],[],0⟩:=r_func ho hc
inductive Qcl:BinOp->IntKind->Int->Int->Value->Prop
 | add {a b:Int}:-9223372036854775808<=a+b/\a+b<=9223372036854775807->Qcl .add .i64 a b (.int .i64 (a+b))
 | sub {a b:Int}:-9223372036854775808<=a-b/\a-b<=9223372036854775807->Qcl .sub .i64 a b (.int .i64 (a-b))
 | mul {a b:Int}:-9223372036854775808<=a*b/\a*b<=9223372036854775807->Qcl .mul .i64 a b (.int .i64 (a*b))
 | addu {a b:Int}:0<=a+b/\a+b<=18446744073709551615->Qcl .add .u64 a b (.int .u64 (a+b))
 | subu {a b:Int}:0<=a-b/\a-b<=18446744073709551615->Qcl .sub .u64 a b (.int .u64 (a-b))
 | bitsE {op:BinOp} {k:IntKind} {a b r:Int}:(op = .and\/op = .or\/op = .xor\/op = .andNot)->bits op k a b=r->Qcl op k a b (.int k r)
 | mulu {a b:Int}:0<=a*b/\a*b<=18446744073709551615->Qcl .mul .u64 a b (.int .u64 (a*b))
 | quo {k:IntKind} {a b:Int}:0<=a/\0<b/\k.wrap (a/b)=a/b->Qcl .quo k a b (.int k (a/b))
 | rem {k:IntKind} {a b:Int}:0<=a/\0<b->Qcl .rem k a b (.int k (a%b))
 | ltT {k:IntKind} {a b:Int}:a<b->Qcl .lss k a b (.bool true)
 | ltF {k:IntKind} {a b:Int}:b<=a->Qcl .lss k a b (.bool false)
 | leT {k:IntKind} {a b:Int}:a<=b->Qcl .leq k a b (.bool true)
 | leF {k:IntKind} {a b:Int}:b<a->Qcl .leq k a b (.bool false)
 | gtT {k:IntKind} {a b:Int}:b<a->Qcl .gtr k a b (.bool true)
 | gtF {k:IntKind} {a b:Int}:a<=b->Qcl .gtr k a b (.bool false)
 | geT {k:IntKind} {a b:Int}:b<=a->Qcl .geq k a b (.bool true)
 | geF {k:IntKind} {a b:Int}:a<b->Qcl .geq k a b (.bool false)
 | eqT {k:IntKind} {a b:Int}:a=b->Qcl .eql k a b (.bool true)
 | eqF {k:IntKind} {a b:Int}:¬ a=b->Qcl .eql k a b (.bool false)
 | neT {k:IntKind} {a b:Int}:¬ a=b->Qcl .neq k a b (.bool true)
 | neF {k:IntKind} {a b:Int}:a=b->Qcl .neq k a b (.bool false)
 | lt {k:IntKind} {a b:Int}:Qcl .lss k a b (.bool (decide (a<b)))
 | le {k:IntKind} {a b:Int}:Qcl .leq k a b (.bool (decide (a<=b)))
 | gt {k:IntKind} {a b:Int}:Qcl .gtr k a b (.bool (decide (b<a)))
 | ge {k:IntKind} {a b:Int}:Qcl .geq k a b (.bool (decide (b<=a)))
 | eq {k:IntKind} {a b:Int}:Qcl .eql k a b (.bool (decide (a=b)))
 | ne {k:IntKind} {a b:Int}:Qcl .neq k a b (.bool (!decide (a=b)))
 | raw {op:BinOp} {k:IntKind} {a b:Int} {r:Value}:Z8 op k a b=some r->Qcl op k a b r
theorem Qcl.ok{op:BinOp}{k:IntKind}{a b:Int}{r:Value}(h:Qcl op k a b r):Z8 op k a b=some r:=by
 cases h with
 | add h=>show some (Value.int _ _)=_;rw [Qbw h]
 | sub h=>show some (Value.int _ _)=_;rw [Qbw h]
 | mul h=>show some (Value.int _ _)=_;rw [Qbw h]
 | addu h=>show some (Value.int _ _)=_;rw [QaO h]
 | subu h=>show some (Value.int _ _)=_;rw [QaO h]
 | bitsE h1 h2=>subst h2;rcases h1 with rfl | rfl | rfl | rfl <;> rfl
 | mulu h=>show some (Value.int _ _)=_;rw [QaO h]
 | quo h=>ð⟨h1,h2,h3⟩:=h;simp only [Z8];rw [if_neg Oo,V8 h1,h3]
 | rem h=>ð⟨h1,h2⟩:=h;simp only [Z8];rw [if_neg Oo,VT h1]
 | ltT h=>simp [Z8,h]
 | ltF h=>simp [Z8];omega
 | leT h=>simp [Z8,h]
 | leF h=>simp [Z8];omega
 | gtT h=>simp [Z8,h]
 | gtF h=>simp [Z8];omega
 | geT h=>simp [Z8,h]
 | geF h=>simp [Z8];omega
 | eqT h=>simp [Z8,h]
 | eqF h=>simp [Z8,h]
 | neT h=>simp [Z8,h]
 | neF h=>simp [Z8,h]
 | lt=>rfl
 | le=>rfl
 | gt=>rfl
 | ge=>rfl
 | eq=>simp only [Z8];congr 2
 | ne=>simp only [Z8];congr 2
 | raw h=>~h
inductive ShI:BinOp->IntKind->Int->Int->Value->Prop
 | shl {a:Int} {s:Nat}:s<=64/\-9223372036854775808<=a*2^s/\a*2^s<=9223372036854775807->ShI .shl .i64 a s (.int .i64 (a*2^s))
 | shlu {a:Int} {s:Nat}:s<=64/\0<=a*2^s/\a*2^s<=18446744073709551615->ShI .shl .u64 a s (.int .u64 (a*2^s))
 | shr {k:IntKind} {a:Int} {s:Nat}:s<=k.bits->ShI .shr k a s (.int k (a/2^s))
 | shlZ {a q:Int}:0<=q/\q<=64/\-9223372036854775808<=a*2^q.toNat/\a*2^q.toNat<=9223372036854775807->ShI .shl .i64 a q (.int .i64 (a*2^q.toNat))
 | shluZ {a q:Int}:0<=q/\q<=64/\0<=a*2^q.toNat/\a*2^q.toNat<=18446744073709551615->ShI .shl .u64 a q (.int .u64 (a*2^q.toNat))
 | shrZ {k:IntKind} {a q:Int}:0<=q/\q.toNat<=k.bits->ShI .shr k a q (.int k (a/2^q.toNat))
 | raw {op:BinOp} {k:IntKind} {a b:Int} {r:Value}:Z1 op k a b=some r->ShI op k a b r
theorem ShI.ok{op:BinOp}{k:IntKind}{a b:Int}{r:Value}(h:ShI op k a b r):Z1 op k a b=some r:=by
 cases h with
 | shl h =>
  ð⟨h1,h2⟩:=h
  simp only [Z1]
  rw [if_neg Oo,Wd,W7 (show _<=IntKind.i64.bits from h1),Qbw h2]
 | shlu h =>
  ð⟨h1,h2⟩:=h
  simp only [Z1]
  rw [if_neg Oo,Wd,W7 (show _<=IntKind.u64.bits from h1),QaO h2]
 | shr h =>
  simp only [Z1]
  rw [if_neg Oo,Wd,W7 h,Ur _ (Wab (Int.pow_pos Od))]
 | shlZ h =>
  ð⟨h0,h1,h2⟩:=h
  simp only [Z1]
  rw [if_neg Oo,W7 (show _<=IntKind.i64.bits by show _<=64;omega),Qbw h2]
 | shluZ h =>
  ð⟨h0,h1,h2⟩:=h
  simp only [Z1]
  rw [if_neg Oo,W7 (show _<=IntKind.u64.bits by show _<=64;omega),QaO h2]
 | shrZ h =>
  simp only [Z1]
  rw [if_neg Oo,W7 h.2,Ur _ (Wab (Int.pow_pos Od))]
 | raw h=>~h
theorem map_at{α:Type}{c:α->List DV}{l:List α}{i:Nat}(h:i<l.length):(l.map c)[i]?=some (c l[i]):=by rw [Wh,Wa h];rfl
inductive Cells(env:Env)(sto:Sto):Operand->List DV->List Nat->Prop
 | pp {p:Operand} {cs:List DV}:opd env p = .pp cs->Cells env sto p cs []
 | ptr {p:Operand} {s i j:Nat} {ob:Ob} {x:List DV}:opd env p = .ptr s i j->sto.get s=some ob->ob.els[i]?=some x->Cells env sto p (x.drop j) [s]
 | ptrM {α:Type} {c:α->List DV} {l:List α} {p:Operand} {s i j z:Nat} {arr frz:Bool}:opd env p = .ptr s i j->sto.get s=some ⟨z,arr,frz,l.map c⟩->(h:i<l.length)->Cells env sto p ((c l[i]).drop j) [s]
theorem m_load{t:Nat}{p:Operand}{td:TyD}{d:DV}{cs:List DV}{rs:List Nat}(ht:QF P t td)(ho:o.op = .load t p:=by rfl)(hc:Cells env sto p cs rs:=by first | ~.ptr rfl rfl rfl | ~.pp rfl | ~.ptrM rfl rfl Oo)(hd:ldD td cs=some d:=by rfl):Qv P o env sto nxt ⟨d,[],rs,0⟩:=by
 cases hc with
 | pp hp=>~r_loadP ho ht hp hd
 | ptr hp hs hx=>~r_load ho ht hp hs hx hd
 | ptrM hp hs h=>~r_load ho ht hp hs (map_at h) hd
inductive FaD(env:Env)(sto:Sto)(off:Nat):Operand->DV->List Nat->Prop
 | pp {p:Operand} {cs:List DV}:opd env p = .pp cs->FaD env sto off p (.pp (cs.drop off)) []
 | ptr {p:Operand} {s i j:Nat} {ob:Ob}:opd env p = .ptr s i j->sto.get s=some ob->FaD env sto off p (.ptr s i (j+off)) [s]
theorem m_fa{t f:Nat}{p:Operand}{td:TyD}{fs:List (Nat×Nat)}{off size:Nat}{d:DV}{rs:List Nat}(ht:QF P t td)(ho:o.op = .fieldAddr t p f:=by rfl)(hk:td.k = .struct fs:=by rfl)(hf:fs[f]?=some (off,size):=by rfl)(h0:size≠0:=by decide)
  (hc:FaD env sto off p d rs:=by first | ~.ptr rfl rfl | ~.pp rfl):Qv P o env sto nxt ⟨d,[],rs,0⟩:=by
 cases hc with
 | pp hp=>~r_faP ho ht hk hf h0 hp
 | ptr hp hs=>~r_fa ho ht hk hf h0 hp hs
inductive LenD(env:Env)(sto:Sto):Operand->Nat->List Nat->Prop
 | map {α:Type} {c:α->List DV} {l:List α} {x:Operand}:opd env x = .sl (l.map c)->LenD env sto x l.length []
 | sl {xs:List (List DV)} {x:Operand}:opd env x = .sl xs->LenD env sto x xs.length []
 | nil {x:Operand}:opd env x = .lit (.slice none 0 0)->LenD env sto x 0 []
 | own {s off len:Nat} {ob:Ob} {x:Operand}:opd env x = .own s off len->sto.get s=some ob->LenD env sto x len [s]
theorem m_len{x:Operand}{t:Nat}{td:TyD}{e n:Nat}{rs:List Nat}(ht:QF P t td)(ho:o.op = .call ⟨.builtin .len,#[x],#[t]⟩:=by rfl)(hk:td.k = .slice e:=by rfl)
  (hx:LenD env sto x n rs:=by first | ~.map rfl | ~.own rfl rfl | ~.nil rfl | ~.sl rfl):Qv P o env sto nxt ⟨.lit (.int .i64 n),[],rs,0⟩:=by
 cases hx with
 | map h=>~r_lenS ho ht hk h Os
 | sl h=>~r_lenS ho ht hk h rfl
 | nil h=>~r_lenN ho ht hk h
 | own h hs=>~r_lenO ho ht hk h hs
inductive NilD(env:Env)(sto:Sto):Operand->DV->List Nat->Prop
 | pp {x:Operand} {cs:List DV}:opd env x = .pp cs->NilD env sto x (.pp cs) []
 | ptr {x:Operand} {s i j:Nat} {ob:Ob}:opd env x = .ptr s i j->sto.get s=some ob->NilD env sto x (.ptr s i j) [s]
 | fn {x:Operand} {f:Nat} {xs:List DV}:opd env x = .fn f xs->NilD env sto x (.fn f xs) []
 | func {x:Operand} {f:Nat} {p q:Array Value}:opd env x = .lit (.func (.func f) p q)->NilD env sto x (.lit (.func (.func f) p q)) []
theorem m_nil{x:Operand}{d:DV}{rs:List Nat}(ho:o.op = .nilCheck x:=by rfl)(hc:NilD env sto x d rs:=by first | ~.ptr rfl rfl | ~.pp rfl | ~.fn rfl | ~.func rfl):Qv P o env sto nxt ⟨d,[],rs,0⟩:=by
 cases hc with
 | pp h=>~r_nilP ho h
 | ptr h hs=>~r_nil ho h hs
 | fn h=>~r_nilF ho h
 | func h=>~r_nilL ho h
inductive StD(env:Env)(sto:Sto)(td:TyD):Operand->Operand->List (Nat×Option Ob)->List Nat->Prop
 | box {p x:Operand} {s i j:Nat} {ob:Ob} {y cs:List DV} {r:List Nat}:opd env p = .ptr s i j->sto.get s=some ob->ob.frz=false->ob.arr=false->Qbe td (opd env x)=some cs->boxF sto cs=some r->ob.els[i]?=some y->j+cs.length<=y.length ->
   StD env sto td p x [(s,some { ob with els:=ob.els.set i (setCells y j cs) })] (s :: r)
 | arr {p x:Operand} {s i j:Nat} {ob:Ob} {y cs cs':List DV} {us:List Nat}:opd env p = .ptr s i j->sto.get s=some ob->ob.frz=false->ob.arr=true->Qbe td (opd env x)=some cs->QaH sto cs=some (cs',us)->us.contains s=false->ob.els[i]?=some y->j+cs.length<=y.length ->
   StD env sto td p x ((s,some { ob with els:=ob.els.set i (setCells y j cs') }) :: Qdr sto us) (s :: us)
 | arrM {α:Type} {c:α->List DV} {l:List α} {p x:Operand} {s i j z:Nat} {cs cs':List DV} {us:List Nat}:opd env p = .ptr s i j->sto.get s=some ⟨z,true,false,l.map c⟩->Qbe td (opd env x)=some cs->QaH sto cs=some (cs',us)->us.contains s=false->(h:i<l.length)->j+cs.length<=(c l[i]).length ->
   StD env sto td p x ((s,some ⟨z,true,false,(l.map c).set i (setCells (c l[i]) j cs')⟩) :: Qdr sto us) (s :: us)
theorem m_store{t:Nat}{p x:Operand}{td:TyD}{us:List (Nat×Option Ob)}{rs:List Nat}(ht:QF P t td)(ho:o.op = .store t p x:=by rfl)
  (hc:StD env sto td p x us rs:=by first | ~.box rfl rfl rfl rfl rfl rfl rfl (by first | decide | ~V0 rfl) | ~.arrM rfl rfl rfl rfl rfl Oo (by first | decide | ~V0 rfl) | ~.arr rfl rfl rfl rfl rfl rfl rfl rfl (by first | decide | ~V0 rfl)):Qv P o env sto nxt ⟨.any,us,rs,0⟩:=by
 cases hc with
 | box h1 h2 h3 h4 h5 h6 h7 h8=>~QfQ ho ht h1 h2 h3 h4 h5 h6 h7 h8
 | arr h1 h2 h3 h4 h5 h6 h7 h8 h9=>~r_storeA ho ht h1 h2 h3 h4 h5 h6 h7 h8 h9
 | arrM h1 h2 h5 h6 h7 h8 h9=>~r_storeA ho ht h1 h2 rfl rfl h5 h6 h7 (map_at h8) h9
inductive ElsD(env:Env)(sto:Sto)(z:Nat):Operand->List (List DV)->List Nat->Prop
 | map {α:Type} {c:α->List DV} {l:List α} {x:Operand}:opd env x = .sl (l.map c)->(∀ a,(c a).length=z)->ElsD env sto z x (l.map c) []
 | own {α:Type} {c:α->List DV} {l:List α} {x:Operand} {s off len:Nat} {frz:Bool}:opd env x = .own s off len->sto.get s=some ⟨z,true,frz,l.map c⟩->off=0->len=l.length->(∀ a,(c a).length=z)->ElsD env sto z x (l.map c) [s]
 | raw {x:Operand} {ys:List (List DV)} {rs:List Nat}:elsF sto (opd env x)=some (ys,rs)->(∀ y∈ys,y.length=z)->ElsD env sto z x ys rs
theorem ElsD.ok{z:Nat}{x:Operand}{ys:List (List DV)}{rs:List Nat}(h:ElsD env sto z x ys rs):elsF sto (opd env x)=some (ys,rs)/\∀ y∈ys,y.length=z:=by
 cases h with
 | map h hz =>
  rw [h]
  ~⟨rfl,λy hy=>by ð⟨a,_,rfl⟩:=Wk.1 hy;~hz a⟩
 | own h hs h0 hl hz =>
  rw [h]
  subst h0
  subst hl
  &⟨?_,λy hy=>by ð⟨a,_,rfl⟩:=Wk.1 hy;~hz a⟩
  unfold elsF
  simp only [hs]
  rw [if_pos ⟨trivial,Os⟩,UE,WF Os]
 | raw h hz=>~⟨h,hz⟩
theorem m_xor{t:Nat}{x:Operand}{k:IntKind}{p:Int}(ho:o.op = .unOp .xor t x:=by rfl)(hx:opd env x = .lit (.int k p):=by rfl):Qv P o env sto nxt ⟨.lit (.int k (k.wrap (BitVec.ofInt k.bits (if k.signed then -1 else k.max) ^^^ BitVec.ofInt k.bits p).toNat)),[],[],0⟩:=r_xor ho hx
end
abbrev DI(n:Int):DV:=.lit (.int .i64 n)
abbrev DU(n:Int):DV:=.lit (.int .u64 n)
abbrev DB(b:Bool):DV:=.lit (.bool b)
abbrev DN:DV:=.lit (.slice none 0 0)
theorem Cv.litE{sto:Sto}{ρ:Ren}{u v:Value}(h:u=v):Cv sto ρ (.lit u) (.lit v) []:=h▸.lit
theorem Cv.frzM{α:Type}{c:α->List DV}{l:List α}{sto:Sto}{ρ:Ren}{s len z:Nat}{fz:Bool}(h:sto.get s=some ⟨z,true,fz,l.map c⟩)(hl:len=l.length):Cv sto ρ (.own s 0 len) (.sl (l.map c)) [s] :=
 .frz h rfl (by simp [hl]) (by rw [hl,UE,WF Os])
theorem CvO.arrE{sto:Sto}{ρ:Ren}{z:Nat}{fz:Bool}{xs ys:List (List DV)}(h:xs=ys):CvO sto ρ ⟨z,true,fz,xs⟩ ⟨z,true,fz,ys⟩ []:=h▸.arr rfl
section
variable{P:Program}{env:Env}{sto:Sto}{nxt:Nat}{o:Oper}
theorem CvL.numbers{sto:Sto}{ρ:Ren}:∀ (l:List Int),CvL sto ρ (l.map DI) (l.map DI) []
 | []=>.nil
 | _ :: l=>CvL.cons (r:=[]) (r':=[]) .lit (CvL.numbers l)
theorem CvL.bools{sto:Sto}{ρ:Ren}:∀ (l:List Bool),CvL sto ρ (l.map DB) (l.map DB) []
 | []=>.nil
 | _ :: l=>CvL.cons (r:=[]) (r':=[]) .lit (CvL.bools l)
theorem fin{fn:Func}{n0:Nat}{r:DV}{S':Sto}{e:Exit}{st:DSt}{ds:List DV}{fr1 fr2:List Nat}(ρ:Ren)(hl:ResL P st fn.results.toList ds)
  (h1:Cv st.sto ρ (resV ds) r fr1:=by repeat' (first | ~.any | ~.lit | ~.sl | ~.nil | ~.own rfl | ~.ptr rfl | ~.frzM rfl (by first | rfl | simp) | ~.pp | ~CvL.nil | apply CvL.cons | apply Cv.agg | apply Cv.tup | apply Cv.fn | ~.litE Oa | ~.litE (congrArg (Value.int _) Oo) | ~.litE (by simp [*])))
  (h2:CvS st.sto ρ S' fr2:=by repeat' (first | ~CvS.nil | apply CvS.cons rfl rfl | ~.arr rfl | apply CvO.box | ~CvL.nil | apply CvL.cons | ~.any | ~.lit | ~.sl | ~.nil | ~.own rfl | ~.ptr rfl | ~.pp | ~.arrE Oa | ~.litE Oa))
  (h3:okR ρ (fr1++fr2) n0 (idb S' n0)=true:=by rfl)(he:e = .normal\/e = .ret:=by first | ~.inr rfl | ~.inl rfl):RetD P fn n0 r S' e st:=⟨he,ds,ρ,fr1,fr2,hl,h1,h2,h3⟩
theorem PRep.len{w:World}{no:Nat->Prop}{v:Value}{xs:List (List DV)}(h:PRep w no v (.sl xs)):xs.length<=9223372036854775807:=by
 ð⟨_,cap,_,h1,h2,_⟩:=h.sl_inv
 unfold maxLen at h2
 omega
end
def Qf9:List DV->Option (List Int)
 | []=>some []
 | .lit (.int .i64 n) :: l=>match Qf9 l with | some r=>some (n :: r) | none=>none
 | _=>none
def stEqB(P:Program)(t n:Nat):Bool:=match P.underlying t with
 | some (.struct fs)=>!P.stoodInHeld t && !P.eqGuardType P.depth t && fs.size == n && fs.toList.zipIdx.all λp=>!(p.1.name == "_") && p.1.offset == p.2 && (match P.underlying p.1.type with | some (.int .i64)=>true | _=>false) && (match P.info? p.1.type with | some i=>i.size == 1 | none=>false)
 | _=>false
section
variable{P:Program}{env:Env}{sto:Sto}{nxt:Nat}{o:Oper}
theorem QbX{m:Mem}{vs:List Value}{xs:List DV}{az:List Int}(h:Qf9 xs=some az)(hr:Reps m vs xs):vs=az.map (Value.int .i64):=by
 induction xs generalizing vs az with
 | nil =>
  injection h with h
  subst h
  ~Vp.1 hr.1
 | cons x xs ih =>
  unfold Qf9 at h
  split at h
  ·rename_i hq;cases hq
  ·rename_i n l hq
   injection hq with h1 h2
   subst h1
   subst h2
   split at h
   ·rename_i r hr'
    injection h with h
    subst h
    cases vs with
    | nil=>have:=hr.1;simp at this
    | cons v vs =>
     have h1:=hr.2 0 v _ rfl rfl
     have h2:=ih (vs:=vs) hr' ⟨by simpa using hr.1,λi v d hv hd=>hr.2 (i+1) v d (by simpa using hv) (by simpa using hd)⟩
     rw [h1.lit_inv,h2]
     rfl
   ·cases h
  ·cases h
theorem QeJ(w:World)(az bs:List Int)(d:Nat)(hl:az.length=bs.length):∀ (fs:List Field) (k:Nat),
  (fs.zipIdx k).all (λp=>!(p.1.name == "_") && p.1.offset == p.2 && (match P.underlying p.1.type with | some (.int .i64)=>true | _=>false) && (match P.info? p.1.type with | some i=>i.size == 1 | none=>false))=true ->
  k+fs.length=az.length->(Op.eqFields (d+1) (az.map (Value.int .i64)).toArray (bs.map (Value.int .i64)).toArray fs).run P w = .ok (decide (az.drop k=bs.drop k)) w
 | [],k,_,hk=>by
  have h1:az.drop k=[]:=VF (by simp at hk;omega)
  have h2:bs.drop k=[]:=VF (by simp at hk;omega)
  simp [Op.eqFields,h1,h2]
 | f :: fs,k,h,hk=>by
  rw [List.zipIdx_cons,List.all_cons,W9] at h
  ð⟨h1,h2⟩:=h
  simp only [W9,Vy,beq_iff_eq,beq_eq_false_iff_ne,ne_eq] at h1
  ð⟨⟨⟨a1,a2⟩,a3⟩,a4⟩:=h1
  have hlt:k<az.length:=by simp at hk;omega
  have hlt2:k<bs.length:=by omega
  have hu:P.underlying f.type=some (.int .i64):=by
   split at a3
   ·assumption
   ·cases a3
  have hp:∀ (cs:List Int) (hc:k<cs.length),(part f.type (cs.map (Value.int .i64)).toArray f.offset).run P w = .ok (.int .i64 cs[k]) w:=λcs hc=>by
   cases hi:P.info? f.type with
   | none=>rw [hi] at a4;cases a4
   | some i =>
    rw [hi] at a4
    have hs:i.size=1:=by simpa using a4
    simp [part,isAgg,run_underlying hu,a2,hc]
  have ih:=QeJ w az bs d hl fs (k+1) h2 (by simp at hk;omega)
  have e1:az.drop k=az[k] :: az.drop (k+1):=Vk hlt
  have e2:bs.drop k=bs[k] :: bs.drop (k+1):=Vk hlt2
  have hi:=run_equalIn_int (P:=P) w d f.type .i64 .i64 az[k] bs[k] hu
  unfold Op.eqFields
  rw [if_pos a1]
  simp only [Sem.run_bind,hp az hlt,hp bs hlt2,Result.andThen_ok,hi]
  by_cases he:az[k]=bs[k]
  ·have hb:(az[k] == bs[k])=true:=by rw [he];~beq_self_eq_true _
   have key:(az.drop k=bs.drop k)<->(az.drop (k+1)=bs.drop (k+1)):=by
    rw [e1,e2,YT]
    ~⟨λh=>h.2,λh=>⟨he,h⟩⟩
   rw [hb]
   simp only [Bool.not_true,Bool.false_eq_true,if_false,ih]
   rw [decide_eq_decide.2 key]
  ·have hb:(az[k] == bs[k])=false:=by rw [beq_eq_false_iff_ne];~he
   have key:¬ (az.drop k=bs.drop k):=by
    rw [e1,e2,YT]
    ~λh=>he h.1
   rw [hb,decide_eq_false key]
   rfl
theorem run_eqS{t:Nat}{az bs:List Int}(ht:stEqB P t az.length=true)(hl:az.length=bs.length)(w:World) :
  (Op.equalIn 10000 t (.agg (az.map (Value.int .i64)).toArray) (.agg (bs.map (Value.int .i64)).toArray)).run P w = .ok (decide (az=bs)) w/\P.eqGuardType P.depth t=false:=by
 unfold stEqB at ht
 split at ht
 ·rename_i fs hu
  simp only [W9,Vy,beq_iff_eq] at ht
  ð⟨⟨⟨h1,h2⟩,h3⟩,h4⟩:=ht
  have hf:P.fieldsOf t=fs:=by unfold Program.fieldsOf;rw [hu]
  &⟨?_,h2⟩
  rw [run_equalIn_struct w 9999 t _ _ (by rw [hf];~hu) h1,hf]
  have:=QeJ (P:=P) w az bs 9998 hl fs.toList 0 h4 (by simp;omega)
  simpa using this
 ·cases ht
theorem m_eqS{t:Nat}{x y:Operand}{t':Nat}{xs ys:List DV}{az bs:List Int}(ht:stEqB P t az.length=true:=by kernel_rfl)(ho:o.op = .binOp .eql t x y t':=by rfl)(hx:opd env x = .agg xs:=by rfl)(hy:opd env y = .agg ys:=by rfl)(ha:Qf9 xs=some az:=by rfl)(hb:Qf9 ys=some bs:=by rfl)(hl:az.length=bs.length:=by rfl) :
  Qv P o env sto nxt ⟨.lit (.bool (decide (az=bs))),[],[],0⟩:=.ran λF m a hI hE _ _=>by
 have h1:=hE x (by simp [ho,Op.operands])
 have h2:=hE y (by simp [ho,Op.operands])
 rw [hx] at h1
 rw [hy] at h2
 ð⟨us,e1,q1,q2⟩:=h1.agg_inv
 ð⟨vs,e2,p1,p2⟩:=h2.agg_inv
 have v1:=QbX ha ⟨q1,q2⟩
 have v2:=QbX hb ⟨p1,p2⟩
 subst v1
 subst v2
 ð⟨r1,r2⟩:=run_eqS ht hl m.w
 &QbQ rfl ho hI e1 e2 ?_
 rw [Sem.run_bind,run_eqGuard_agg m.w _ _ _ _ _ _ r2,Result.andThen_ok,run_eql_struct,r1]
 rfl
theorem m_neS{t:Nat}{x y:Operand}{t':Nat}{xs ys:List DV}{az bs:List Int}(ht:stEqB P t az.length=true:=by kernel_rfl)(ho:o.op = .binOp .neq t x y t':=by rfl)(hx:opd env x = .agg xs:=by rfl)(hy:opd env y = .agg ys:=by rfl)(ha:Qf9 xs=some az:=by rfl)(hb:Qf9 ys=some bs:=by rfl)(hl:az.length=bs.length:=by rfl) :
  Qv P o env sto nxt ⟨.lit (.bool (!decide (az=bs))),[],[],0⟩:=.ran λF m a hI hE _ _=>by
 have h1:=hE x (by simp [ho,Op.operands])
 have h2:=hE y (by simp [ho,Op.operands])
 rw [hx] at h1
 rw [hy] at h2
 ð⟨us,e1,q1,q2⟩:=h1.agg_inv
 ð⟨vs,e2,p1,p2⟩:=h2.agg_inv
 have v1:=QbX ha ⟨q1,q2⟩
 have v2:=QbX hb ⟨p1,p2⟩
 subst v1
 subst v2
 ð⟨r1,r2⟩:=run_eqS ht hl m.w
 &QbQ rfl ho hI e1 e2 ?_
 rw [Sem.run_bind,run_eqGuard_agg m.w _ _ _ _ _ _ r2,Result.andThen_ok,run_neq_struct,r1]
 rfl
theorem ScS.one{k z:Nat}{a f:Bool}{α:Type}{c:α->List DV}{l:List α}(h:∀ x,∀ d∈c x,Sc d):ScS [(k,⟨z,a,f,l.map c⟩)]:=λs ob hs y hy d hd=>by
 rw [Sto.get_cons] at hs
 split at hs
 ·injection hs with hs
  subst hs
  ð⟨x,_,rfl⟩:=Wk.1 hy
  ~h x d hd
 ·cases hs
theorem ScS.nil:ScS []:=λs ob h=>by cases h
theorem ScS.cons{k z:Nat}{a f:Bool}{α:Type}{c:α->List DV}{l:List α}{S:Sto}(h:∀ x,∀ d∈c x,Sc d)(hS:ScS S):ScS ((k,⟨z,a,f,l.map c⟩) :: S):=λs ob hs y hy d hd=>by
 rw [Sto.get_cons] at hs
 split at hs
 ·injection hs with hs
  subst hs
  ð⟨x,_,rfl⟩:=Wk.1 hy
  ~h x d hd
 ·~hS s ob hs y hy d hd
theorem ScS.box{k z:Nat}{f:Bool}{cs:List DV}{S:Sto}(h:∀ d∈cs,Sc d)(hS:ScS S):ScS ((k,⟨z,false,f,[cs]⟩) :: S):=λs ob hs y hy d hd=>by
 rw [Sto.get_cons] at hs
 split at hs
 ·injection hs with hs
  subst hs
  obtain rfl:=Wo.1 hy
  ~h d hd
 ·~hS s ob hs y hy d hd
end
abbrev w64(n:Int):Int:=IntKind.i64.wrap n
abbrev wu(n:Int):Int:=IntKind.u64.wrap n
section plain
variable{α β ρ σ:Type}
theorem bnd{x:Option α}{K:α->Option β}{r:β}(H:x.bind K=some r):∃ v,x=some v/\K v=some r:=Option.bind_eq_some_iff.1 H
theorem iT{p:Prop}[Decidable p]{A B:Option β}{r:β}(h:p)(H:(if p then A else B)=some r):A=some r:=by rwa [if_pos h] at H
theorem iF{p:Prop}[Decidable p]{A B:Option β}{r:β}(h:¬ p)(H:(if p then A else B)=some r):B=some r:=by rwa [if_neg h] at H
theorem ck{p:Prop}[Decidable p]{A:Option β}{r:β}(H:(if p then A else none)=some r):p/\A=some r:=by
 by_cases h:p
 ·~⟨h,iT h H⟩
 ·have:=iF h H;cases this
theorem som{a r:β}(H:some a=some r):a=r:=VD H
def at_(l:List α)(i:Int):Option α:=if 0<=i then l[i.toNat]? else none
theorem at_get{l:List α}{i:Int}{v:α}(h:at_ l i=some v):0<=i/\l[i.toNat]?=some v:=ck h
theorem at_lt{l:List α}{i:Int}{v:α}(h:at_ l i=some v):0<=i/\i.toNat<l.length:=by
 ð⟨h1,h2⟩:=at_get h
 &⟨h1,?_⟩
 rcases Ws i.toNat l.length with h' | h'
 ·~h'
 ·rw [Wg h'] at h2;cases h2
theorem at_elem{l:List α}{i:Int}{v:α}(h:at_ l i=some v):∃ h':i.toNat<l.length,l[i.toNat]=v:=by
 ð⟨h1,h2⟩:=at_get h
 ð⟨_,h3⟩:=at_lt h
 rw [Wa h3] at h2
 ~⟨h3,VD h2⟩
inductive LS(σ β:Type) where
 | go (s:σ)
 | out (b:β)
def Qbx(f:σ->Option (LS σ β)):Nat->σ->Option β
 | 0,_=>none
 | n+1,s=>match f s with
  | none=>none
  | some (.go s')=>Qbx f n s'
  | some (.out b)=>some b
theorem loopN_succ{f:σ->Option (LS σ β)}:∀ {n:Nat} {s:σ} {b:β},Qbx f n s=some b->Qbx f (n+1) s=some b
 | 0,_,_,h=>by cases h
 | n+1,s,b,h=>by
  unfold Qbx at h ⊢
  cases hf:f s with
  | none=>rw [hf] at h;cases h
  | some y =>
   rw [hf] at h
   cases y with
   | go s'=>~loopN_succ (n:=n) h
   | out b'=>~h
theorem loopN_le{f:σ->Option (LS σ β)}{n m:Nat}{s:σ}{b:β}(h:Qbx f n s=some b)(hm:n<=m):Qbx f m s=some b:=by
 induction hm with
 | refl=>~h
 | step _ ih=>~loopN_succ ih
theorem loopN_one{f:σ->Option (LS σ β)}{n m:Nat}{s:σ}{b c:β}(h:Qbx f n s=some b)(k:Qbx f m s=some c):b=c:=by
 have h1:=loopN_le h (Nat.le_max_left n m)
 have h2:=loopN_le k (Nat.le_max_right n m)
 rw [h1] at h2
 ~VD h2
noncomputable def Qh(f:σ->Option (LS σ β))(s:σ):Option β:=open Classical in if h:∃ b,∃ n,Qbx f n s=some b then some (Classical.choose h) else none
theorem Qak{f:σ->Option (LS σ β)}{s:σ}{b:β}:Qh f s=some b<->∃ n,Qbx f n s=some b:=by
 unfold Qh
 constructor
 ·intro h
  split at h
  ·rename_i hx
   rw [<- VD h]
   ~Classical.choose_spec hx
  ·cases h
 ·rintro ⟨n,h⟩
  have hx:∃ b,∃ n,Qbx f n s=some b:=⟨b,n,h⟩
  rw [dif_pos hx]
  ð⟨m,hm⟩:=Classical.choose_spec hx
  rw [loopN_one hm h]
theorem Qfr{f:σ->Option (LS σ β)}{s s':σ}(h:f s=some (.go s')):Qh f s=Qh f s':=by
 apply Option.ext
 intro b
 rw [Qak,Qak]
 constructor
 ·rintro ⟨n,hn⟩
  cases n with
  | zero=>cases hn
  | succ n=>unfold Qbx at hn;rw [h] at hn;~⟨n,hn⟩
 ·rintro ⟨n,hn⟩
  ~⟨n+1,by unfold Qbx;rw [h];~hn⟩
theorem Qcw{f:σ->Option (LS σ β)}{s:σ}{b:β}(h:f s=some (.out b)):Qh f s=some b :=
 Qak.2 ⟨1,by unfold Qbx;rw [h]⟩
theorem loop_run{f:σ->Option (LS σ β)}(I:Nat->σ):∀ (n k:Nat),(∀ j,k<=j->j<k+n->f (I j)=some (.go (I (j+1))))->Qh f (I k)=Qh f (I (k+n))
 | 0,k,_=>rfl
 | n+1,k,h=>by
  rw [Qfr (h k (Wl _) Oo),loop_run I n (k+1) λj h1 h2=>h j Oo Oo]
  congr 2
  omega
theorem Qfq{f:σ->Option (LS σ β)}(I:Nat->σ)(n:Nat){b:β}(h:∀ j,j<n->f (I j)=some (.go (I (j+1))))(hb:f (I n)=some (.out b)):Qh f (I 0)=some b:=by
 rw [loop_run I n 0 λj _ hj=>h j Oo,WS]
 ~Qcw hb
def bndR(X:Option (β ⊕ ρ))(K:β->Option ρ):Option ρ:=X.bind λz=>match z with
 | .inl b=>K b
 | .inr r=>some r
@[simp] theorem bndR_none(K:β->Option ρ):bndR none K=none:=rfl
@[simp] theorem bndR_inl(b:β)(K:β->Option ρ):bndR (some (.inl b)) K=K b:=rfl
@[simp] theorem bndR_inr(r:ρ)(K:β->Option ρ):bndR (some (.inr r)) K=some r:=rfl
end plain
section
variable{P:Program}{nt n0:Nat}{Q:Exit->DSt->Prop}{st:DSt}{α β ρ σ:Type}
theorem d_cutF{x y:Code}{X:Option β}{K:β->Option ρ}{r:ρ}(I:β->DSt)(H:X.bind K=some r)
  (hx:∀ z,X=some z->DWp P nt n0 x (Qcp (λs=>ZM n0 s (I z)) Q) st)(hy:∀ b,K b=some r->DWp P nt n0 y Q (I b)):DWp P nt n0 (.seq x y) Q st:=by
 ð⟨z,h1,h2⟩:=bnd H
 &d_cut I (λb=>b=z) ((hx z h1).mono λe s h=>?_) (λb hb=>by subst hb;~hy b h2)
 cases e with
 | normal=>~⟨z,rfl,h⟩
 | _=>~h
theorem d_cutR{x y:Code}{X:Option (β ⊕ ρ)}{K:β->Option ρ}{r:ρ}(I:β->DSt)(H:bndR X K=some r)
  (hx:∀ z,X=some z->(∀ r',z = .inr r'->r'=r)->DWp P nt n0 x (Qcp (λs=>∃ b,z = .inl b/\ZM n0 s (I b)) Q) st)(hy:∀ b,K b=some r->DWp P nt n0 y Q (I b)):DWp P nt n0 (.seq x y) Q st:=by
 ð⟨z,h1,h2⟩:=bnd H
 have h3:∀ r',z = .inr r'->r'=r:=λr' e=>by subst e;~VD h2
 &d_cut I (λb=>z = .inl b) ((hx z h1 h3).mono λe s h=>?_) (λb hb=>by subst hb;~hy b h2)
 cases e with
 | normal=>~h
 | _=>~h
theorem d_loopF{body:Code}{f:σ->Option (LS σ β)}{s0:σ}{z:β}(I:σ->DSt)(H:Qh f s0=some z)(h0:ZM n0 st (I s0))
  (hs:∀ s y,f s=some y->(∀ b,y = .out b->b=z)->DWp P nt n0 body (Qcp (λs'=>∃ x',y = .go x'/\ZM n0 s' (I x')) Q) (I s)):DWp P nt n0 (.loop body) Q st:=by
 ð⟨n,hn⟩:=Qak.1 H
 &d_loop (α:=Nat×σ) (λx=>I x.2) (λx=>Qbx f x.1 x.2=some z) (λx=>x.1) (n,s0) hn h0 λx hx=>?_
 ð⟨m,s⟩:=x
 cases m with
 | zero=>cases hx
 | succ m =>
  unfold Qbx at hx
  dsimp only at hx ⊢
  cases hf:f s with
  | none=>rw [hf] at hx;cases hx
  | some y =>
   rw [hf] at hx
   &(hs s y hf λb e=>by subst e;~VD hx).mono λe s' h=>?_
   cases e with
   | normal =>
    ð⟨x',h1,h2⟩:=h
    subst h1
    ~⟨(m,x'),hx,Nat.lt_succ_self m,h2⟩
   | _=>~h
theorem d_condE{c:Operand}{x y:Code}{b:Bool}(hc:opd st.env c = .lit (.bool b))(e:b=true)(h:DWp P nt n0 x Q st):DWp P nt n0 (.cond c x y) Q st:=by subst e;~d_condT hc h
theorem d_condN{c:Operand}{x y:Code}{b:Bool}(hc:opd st.env c = .lit (.bool b))(e:b=false)(h:DWp P nt n0 y Q st):DWp P nt n0 (.cond c x y) Q st:=by subst e;~d_condF hc h
end
section
variable{P:Program}{env:Env}{sto:Sto}{nxt:Nat}{o:Oper}{ops:Array Oper}{l:List Oper}{K:QfE->DSt->Prop}
theorem gY{g t:Nat}{b c:Bool}(e:c=b)(h1:o.guard=some (g,b):=by rfl)(h2:(ops[g]?).bind (·.dst)=some t:=by rfl)(h3:env.get t = .lit (.bool c):=by rfl):Grd ops o env:=.yes h1 h2 (e▸h3)
theorem noE{g t:Nat}{b c:Bool}(e:c=!b)(k:QV P ops l ⟨env.put o.dst (.tup []),sto,nxt⟩ λouts=>K ((⟨.tup [],[],[],0⟩,nxt) :: outs))
  (hg:o.guard=some (g,b):=by rfl)(ht:(ops[g]?).bind (·.dst)=some t:=by rfl)(hb:env.get t = .lit (.bool c):=by rfl):QV P ops (o :: l) ⟨env,sto,nxt⟩ K :=
 QV.cons' (out:=⟨.tup [],[],[],0⟩) (by unfold Qd0;rw [hg];~⟨t,ht,.inr (.inl ⟨.inl (e▸hb),.inr rfl⟩)⟩) k
theorem noU{g t:Nat}{b:Bool}(k:QV P ops l ⟨env.put o.dst (.tup []),sto,nxt⟩ λouts=>K ((⟨.tup [],[],[],0⟩,nxt) :: outs))
  (hg:o.guard=some (g,b):=by rfl)(ht:(ops[g]?).bind (·.dst)=some t:=by rfl)(hb:env.get t = .tup []:=by rfl):QV P ops (o :: l) ⟨env,sto,nxt⟩ K :=
 QV.cons' (out:=⟨.tup [],[],[],0⟩) (by unfold Qd0;rw [hg];~⟨t,ht,.inr (.inl ⟨.inr hb,.inr rfl⟩)⟩) k
theorem m_pickE{c x y:Operand}{t u:Bool}(e:t=u)(ho:o.op = .pick c x y:=by rfl)(hc:opd env c = .lit (.bool t):=by rfl):Qv P o env sto nxt ⟨cond u (opd env x) (opd env y),[],[],0⟩:=by subst e;~m_pick ho hc
theorem m_quo{t:Nat}{x y:Operand}{t':Nat}{k:IntKind}{p q:Int}(h:¬ q=0)(ho:o.op = .binOp .quo t x y t':=by rfl)(hx:opd env x = .lit (.int k p):=by rfl)(hy:opd env y = .lit (.int k q):=by rfl):Qv P o env sto nxt ⟨.lit (.int k (k.wrap (p.tdiv q))),[],[],0⟩ :=
 QeT ho hx hy (by unfold Z8;dsimp only;rw [if_neg h])
theorem m_rem{t:Nat}{x y:Operand}{t':Nat}{k:IntKind}{p q:Int}(h:¬ q=0)(ho:o.op = .binOp .rem t x y t':=by rfl)(hx:opd env x = .lit (.int k p):=by rfl)(hy:opd env y = .lit (.int k q):=by rfl):Qv P o env sto nxt ⟨.lit (.int k (p.tmod q)),[],[],0⟩ :=
 QeT ho hx hy (by unfold Z8;dsimp only;rw [if_neg h])
theorem m_shl{t:Nat}{x y:Operand}{t':Nat}{k j:IntKind}{p q:Int}(h:0<=q)(ho:o.op = .binOp .shl t x y t':=by rfl)(hx:opd env x = .lit (.int k p):=by rfl)(hy:opd env y = .lit (.int j q):=by rfl):Qv P o env sto nxt ⟨.lit (.int k (k.wrap (p*2^min q.toNat k.bits))),[],[],0⟩ :=
 r_shift ho hx hy (by unfold Z1;rw [if_neg Oo])
theorem m_shr{t:Nat}{x y:Operand}{t':Nat}{k j:IntKind}{p q:Int}(h:0<=q)(ho:o.op = .binOp .shr t x y t':=by rfl)(hx:opd env x = .lit (.int k p):=by rfl)(hy:opd env y = .lit (.int j q):=by rfl):Qv P o env sto nxt ⟨.lit (.int k (p.fdiv (2^min q.toNat k.bits))),[],[],0⟩ :=
 r_shift ho hx hy (by unfold Z1;rw [if_neg Oo])
theorem m_neg{t:Nat}{x:Operand}{k:IntKind}{p:Int}(ho:o.op = .unOp .neg t x:=by rfl)(hx:opd env x = .lit (.int k p):=by rfl):Qv P o env sto nxt ⟨.lit (.int k (k.wrap (0-p))),[],[],0⟩:=r_neg ho hx
theorem m_iaS{α:Type}{c:α->List DV}{xs:List α}{v:α}{n:Int}{t e:Nat}{x ix:Operand}{tt td:TyD}{k:IntKind}(h:at_ xs n=some v)(ht:QF P t tt)(he:QF P e td)(ho:o.op = .indexAddr t x ix:=by rfl)(hk:tt.k = .slice e:=by rfl)
  (hx:opd env x = .sl (xs.map c):=by rfl)(hi:opd env ix = .lit (.int k n):=by rfl)(hl:(c v).length=td.size:=by rfl):Qv P o env sto nxt ⟨.pp (c v),[],[],0⟩:=by
 ð⟨h0,h1⟩:=at_lt h
 ð⟨h2,rfl⟩:=at_elem h
 ~r_iaM ho ht hk he hx (by rw [Vj h0];~hi) h1 hl
theorem m_iaO{α:Type}{xs:List α}{v:α}{n:Int}{s len:Nat}{ob:Ob}{t e:Nat}{x ix:Operand}{tt td:TyD}{k:IntKind}(h:at_ xs n=some v)(ht:QF P t tt)(he:QF P e td)(ho:o.op = .indexAddr t x ix)(hx:opd env x = .own s 0 len)(hl:xs.length=len)(hk:tt.k = .slice e:=by rfl)
  (hi:opd env ix = .lit (.int k n):=by rfl)(hs:sto.get s=some ob:=by rfl)(hz:ob.esz=td.size:=by rfl):Qv P o env sto nxt ⟨.ptr s n.toNat 0,[],[s],0⟩:=by
 ð⟨h0,h1⟩:=at_lt h
 have:=r_iaO (P:=P) (nxt:=nxt) ho ht hk he hx (by rw [Vj h0];~hi) hs hz Oo
 rw [WS] at this
 ~this
theorem m_ldO{α:Type}{c:α->List DV}{xs:List α}{v:α}{n:Int}{t:Nat}{p:Operand}{td:TyD}{s j z:Nat}{arr frz:Bool}{d:DV}(h:at_ xs n=some v)(ht:QF P t td)(ho:o.op = .load t p:=by rfl)(hp:opd env p = .ptr s n.toNat j:=by rfl)(hs:sto.get s=some ⟨z,arr,frz,xs.map c⟩:=by rfl)
  (hd:ldD td ((c v).drop j)=some d:=by rfl):Qv P o env sto nxt ⟨d,[],[s],0⟩:=by
 ð⟨h0,h1⟩:=at_get h
 ~r_load ho ht hp hs (by show (xs.map c)[n.toNat]?=some (c v);rw [Wh,h1];rfl) hd
theorem Xr{α:Type}{c:α->List DV}{xs:List α}{v:α}{n:Int}{t:Nat}{p x:Operand}{td:TyD}{s j z:Nat}{cs cs':List DV}{us:List Nat}(h:at_ xs n=some v)(a:α)(ht:QF P t td)(ho:o.op = .store t p x:=by rfl)(hp:opd env p = .ptr s n.toNat j:=by rfl)(hs:sto.get s=some ⟨z,true,false,xs.map c⟩:=by rfl)
  (hc:Qbe td (opd env x)=some cs:=by rfl)(hpu:QaH sto cs=some (cs',us):=by rfl)(hn:us.contains s=false:=by rfl)(hj:j+cs.length<=(c v).length:=by ~V0 rfl)(ha:setCells (c v) j cs'=c a:=by rfl) :
  Qv P o env sto nxt ⟨.any,(s,some ⟨z,true,false,(xs.set n.toNat a).map c⟩) :: Qdr sto us,s :: us,0⟩:=by
 ð⟨h0,h1⟩:=at_get h
 have:=r_storeA (P:=P) (nxt:=nxt) ho ht hp hs rfl rfl hc hpu hn (by show (xs.map c)[n.toNat]?=some (c v);rw [Wh,h1];rfl) hj
 rw [ha] at this
 rwa [show (xs.set n.toNat a).map c=(xs.map c).set n.toNat (c a) by rw [YM]]
theorem Ql{α:Type}{c:α->List DV}(xs:List α){t e len:Nat}{parts:Array (Nat×Operand)}{l:List (Nat×Operand)}{tt td:TyD}{cells cells':List DV}{r us:List Nat}(ht:QF P t tt)(he:QF P e td)(ho:o.op = .buildSlice t len parts:=by rfl)(hp:parts=l.toArray:=by rfl)(hk:tt.k = .slice e:=by rfl)
  (hz:td.zero.length=td.size:=by rfl)(h0:0<td.size:=by decide)(h1:0<len:=by decide)(hm:len*td.size<=16777216:=by decide)
  (h:Qds sto (λi=>some (i*td.size,td.size)) (Qdk td len) (l.map λp=>(p.1,opd env p.2))=some (cells,r):=by rfl)(hpu:QaH sto cells=some (cells',us):=by rfl)(hx:Qbd len td.size cells'=xs.map c:=by rfl)(hl:len=xs.length:=by rfl) :
  Qv P o env sto nxt ⟨.own nxt 0 xs.length,(nxt,some ⟨td.size,true,false,xs.map c⟩) :: Qdr sto us,r++us,1⟩:=by
 have:=r_lit (P:=P) (nxt:=nxt) ho hp ht hk he hz h0 h1 hm h hpu
 rw [hx,hl] at this
 ~this
theorem m_mkE{α:Type}{c:α->List DV}{n B:Int}(a:α){t e:Nat}{x y:Operand}{tt td:TyD}{k:IntKind}(h:0<=n/\n*B<=281474976710656/\n<=9223372036854775807)(ht:QF P t tt)(he:QF P e td)(ho:o.op = .makeSlice t x y:=by rfl)(hk:tt.k = .slice e:=by rfl)(hl:opd env x = .lit (.int k n):=by rfl)(hc:opd env y = .lit (.int k n):=by rfl)
  (hz:td.zero.length=td.size:=by rfl)(h0:0<td.size:=by decide)(ha:td.zero=c a:=by rfl)(hB:(td.bytes:Int)=B:=by rfl) :
  Qv P o env sto nxt ⟨.own nxt 0 (List.replicate n.toNat a).length,[(nxt,some ⟨td.size,true,false,(List.replicate n.toNat a).map c⟩)],[],1⟩:=by
 subst hB
 ð⟨h1,h2,h3⟩:=h
 have e:=Vj h1
 have:=r_make (P:=P) (nxt:=nxt) (sto:=sto) (n:=n.toNat) ho ht hk he (by rw [e];~hl) (by rw [e];~hc) (by
  have:((td.bytes*n.toNat:Nat):Int)<=281474976710656:=by push_cast;rw [e,Int.mul_comm];~h2
  omega) Oo hz h0
 rw [ha] at this
 rw [Ve,U6]
 ~this
def zeroR:DV->DV
 | .lit (.slice none 0 0)=>.sl []
 | d=>d
theorem m_mkZ{α:Type}{c:α->List DV}{n B:Int}(a:α){t e:Nat}{x y:Operand}{tt td:TyD}{k:IntKind}(h:0<=n/\n*B<=281474976710656/\n<=9223372036854775807)(ht:QF P t tt)(he:QF P e td)(ho:o.op = .makeSlice t x y:=by rfl)(hk:tt.k = .slice e:=by rfl)(hl:opd env x = .lit (.int k n):=by rfl)(hc:opd env y = .lit (.int k n):=by rfl)
  (hz:td.zero.length=td.size:=by rfl)(h0:0<td.size:=by decide)(ha:td.zero.map zeroR=c a:=by rfl)(hB:(td.bytes:Int)=B:=by rfl) :
  Qv P o env sto nxt ⟨.own nxt 0 (List.replicate n.toNat a).length,[(nxt,some ⟨td.size,true,false,(List.replicate n.toNat a).map c⟩)],[],1⟩:=by
 subst hB
 ð⟨h1,h2,h3⟩:=h
 have e:=Vj h1
 have:=r_makeZ (P:=P) (nxt:=nxt) (sto:=sto) (n:=n.toNat) ho ht hk he (by rw [e];~hl) (by rw [e];~hc) (by
  have:((td.bytes*n.toNat:Nat):Int)<=281474976710656:=by push_cast;rw [e,Int.mul_comm];~h2
  omega) Oo hz h0 (td.zero.map zeroR) (by rw [Wb];~hz) (λj d hd=>by
   rw [Wh] at hd
   cases hq:td.zero[j]? with
   | none=>rw [hq] at hd;cases hd
   | some u =>
    rw [hq] at hd
    injection hd with hd
    subst hd
    unfold zeroR
    split
    ·~.inr ⟨rfl,rfl⟩
    ·~.inl rfl)
 rw [ha] at this
 rw [Ve,U6]
 ~this
inductive ElE(env:Env)(sto:Sto)(z:Nat):Operand->List (List DV)->List Nat->Prop
 | nil {x:Operand}:opd env x = .lit (.slice none 0 0)->ElE env sto z x [] []
 | sl {xs:List (List DV)} {x:Operand}:opd env x = .sl xs->(∀ y∈xs,y.length=z)->ElE env sto z x xs []
 | own {xs:List (List DV)} {x:Operand} {s len:Nat} {frz:Bool}:opd env x = .own s 0 len->sto.get s=some ⟨z,true,frz,xs⟩->len=xs.length->(∀ y∈xs,y.length=z)->ElE env sto z x xs [s]
theorem ElE.ok{z:Nat}{x:Operand}{ys:List (List DV)}{rs:List Nat}(h:ElE env sto z x ys rs):elsF sto (opd env x)=some (ys,rs)/\∀ y∈ys,y.length=z:=by
 cases h with
 | nil h=>rw [h];~⟨rfl,λy hy=>by cases hy⟩
 | sl h hz=>rw [h];~⟨rfl,hz⟩
 | own h hs hl hz =>
  rw [h]
  subst hl
  &⟨?_,hz⟩
  unfold elsF
  simp only [hs]
  rw [if_pos ⟨trivial,Os⟩,UE,WF Os]
theorem nat_le{a b:Nat}(h:(a:Int)<=(b:Int)):a<=b:=by omega
theorem Qg{α:Type}{c:α->List DV}{z:Nat}(h:∀ a,(c a).length=z)(xs:List α):∀ y∈xs.map c,y.length=z:=λy hy=>by
 ð⟨a,_,rfl⟩:=Wk.1 hy
 ~h a
theorem QbU{α:Type}{c:α->List DV}(ys:List α){t e:Nat}{s x:Operand}{tt td:TyD}{rs:List Nat}{B:Int}(hb:(ys.length:Int)*B<=140737488355328/\(ys.length:Int)<=9223372036854775807)(ht:QF P t tt)(he:QF P e td)(ho:o.op = .call ⟨.builtin .append,#[s,x],#[t,t]⟩)(hx:ElE env sto td.size x (ys.map c) rs)(hk:tt.k = .slice e:=by rfl)
  (hs:opd env s = .lit (.slice none 0 0):=by rfl)(hz:td.zero.length=td.size:=by rfl)(h0:0<td.size:=by decide)(hB:(td.bytes:Int)=B:=by rfl) :
  Qv P o env sto nxt ⟨.own nxt 0 ys.length,[(nxt,some ⟨td.size,true,false,ys.map c⟩)],rs,1⟩:=by
 subst hB
 ð⟨h1,h2⟩:=hx.ok
 have:=r_appN (P:=P) (nxt:=nxt) ho ht hk he hs h1 hz h0 h2 (by rw [Wb];~nat_le (a:=_*_) hb.1) (by rw [Wb];unfold maxLen;omega)
 rw [Wb] at this
 ~this
theorem QW{α:Type}{c:α->List DV}(xs ys:List α){t e k len:Nat}{s x:Operand}{tt td:TyD}{rs:List Nat}{B:Int}(hb:((xs.length:Int)+ys.length)*B<=140737488355328/\(xs.length:Int)+ys.length<=9223372036854775807)(ht:QF P t tt)(he:QF P e td)(ho:o.op = .call ⟨.builtin .append,#[s,x],#[t,t]⟩)(hs:opd env s = .own k 0 len)(hx:ElE env sto td.size x (ys.map c) rs)(hl:xs.length=len)(hk:tt.k = .slice e:=by rfl)
  (hg:sto.get k=some ⟨td.size,true,false,xs.map c⟩:=by rfl)(hz:td.zero.length=td.size:=by rfl)(h0:0<td.size:=by decide)(hB:(td.bytes:Int)=B:=by rfl) :
  Qv P o env sto nxt ⟨.own nxt 0 (xs++ys).length,[(k,none),(nxt,some ⟨td.size,true,false,(xs++ys).map c⟩)],k :: rs,1⟩:=by
 subst hB
 ð⟨h1,h2⟩:=hx.ok
 subst hl
 have:=r_app (P:=P) (nxt:=nxt) ho ht hk he hs hg h1 rfl rfl Os rfl hz h0 h2 (by rw [Wb];~nat_le (a:=(_+_)*_) hb.1) (by rw [Wb];unfold maxLen;omega)
 dsimp only at this
 rw [Wb,WF Os,<- WH,<- We] at this
 ~this
theorem m_slS{α:Type}{c:α->List DV}{xs:List α}{a b:Int}{t e:Nat}{x:Operand}{lo hi:Option Operand}{tt td:TyD}(h:0<=a/\a<=b/\b<=xs.length)(ht:QF P t tt)(he:QF P e td)
  (hl:(lo=none/\a=0)\/∃ y k,lo=some y/\opd env y = .lit (.int k a))(hh:(hi=none/\b=xs.length)\/∃ y k,hi=some y/\opd env y = .lit (.int k b))
  (ho:o.op = .slice t x lo hi none:=by rfl)(hk:tt.k = .slice e:=by rfl)(hx:opd env x = .sl (xs.map c):=by rfl)(hz:∀ a,(c a).length=td.size:=by ~λ_=>rfl) :
  Qv P o env sto nxt ⟨.sl (((xs.take b.toNat).drop a.toNat).map c),[],[],0⟩:=by
 ð⟨h1,h2,h3⟩:=h
 have e1:=Vj h1
 have e2:=Vj (show 0<=b by omega)
 obtain ⟨l,b1,l1⟩:∃ l,Bnd env lo l/\l.getD 0=a.toNat:=by
  rcases hl with ⟨rfl,rfl⟩ | ⟨y,k,rfl,hy⟩
  ·~⟨none,.none,rfl⟩
  ·~⟨some a.toNat,.some (k:=k) (by rw [e1];~hy),rfl⟩
 obtain ⟨u,b2,u1⟩:∃ u,Bnd env hi u/\u.getD (xs.map c).length=b.toNat:=by
  rcases hh with ⟨rfl,rfl⟩ | ⟨y,k,rfl,hy⟩
  ·~⟨none,.none,Os⟩
  ·~⟨some b.toNat,.some (k:=k) (by rw [e2];~hy),rfl⟩
 have:=r_slS (P:=P) (sto:=sto) (nxt:=nxt) ho ht hk he hx b1 b2 (by rw [l1,u1];omega) (by rw [u1,Wb];omega) (λy hy=>by
  ð⟨a,_,rfl⟩:=Wk.1 (List.mem_of_mem_head? hy)
  ~hz a)
 rw [l1,u1] at this
 rw [Waa,Yp]
 ~this
theorem Cv.ownE{sto:Sto}{ρ:Ren}{s s' len len':Nat}(h:ρ.get s'=some s)(e:len=len'):Cv sto ρ (.own s 0 len) (.own s' 0 len') []:=e▸.own h
end
structure Fe where
 ow:Int
 st:Int
 nx:Int
structure Sp where
 sh:Int
 ws:List Int
 fs:List Fe
def uC(x:Int):List DV:=[DU x]
def iC(x:Int):List DV:=[DI x]
def bC(x:Bool):List DV:=[DB x]
def frC(f:Fe):List DV:=[DI f.ow,DI f.st,DI f.nx]
noncomputable def bP(p:Prop):Bool:=@decide p (Classical.propDecidable p)
theorem J5{p:Prop}(h:p):bP p=true:=by unfold bP;~@decide_eq_true p (Classical.propDecidable p) h
theorem Qdd{p:Prop}(h:¬ p):bP p=false:=by unfold bP;~@decide_eq_false p (Classical.propDecidable p) h
theorem QE{p:Prop}:bP p=true<->p:=⟨λh=>Classical.byContradiction λhn=>(by rw [Qdd hn] at h;cases h),J5⟩
theorem QdW{p q:Prop}(h:p<->q):bP p=bP q:=by rw [propext h]
theorem DCall.t{P:Program}{f:Nat}{ds:List DV}{S S':Sto}{p:Prop}(h:DCall P f ds S (DB (bP p)) S')(hp:p):DCall P f ds S (DB true) S':=by rw [<- J5 hp];~h
theorem DCall.f{P:Program}{f:Nat}{ds:List DV}{S S':Sto}{p:Prop}(h:DCall P f ds S (DB (bP p)) S')(hp:¬ p):DCall P f ds S (DB false) S':=by rw [<- Qdd hp];~h
theorem Cv.t{sto:Sto}{ρ:Ren}{p:Prop}(h:p):Cv sto ρ (DB true) (DB (bP p)) []:=by rw [J5 h];~.lit
theorem Cv.f{sto:Sto}{ρ:Ren}{p:Prop}(h:¬ p):Cv sto ρ (DB false) (DB (bP p)) []:=by rw [Qdd h];~.lit
theorem Cv.b{sto:Sto}{ρ:Ren}{p:Prop}{b:Bool}(h:b=true<->p):Cv sto ρ (DB b) (DB (bP p)) []:=by
 cases b with
 | true=>~Cv.t (h.1 rfl)
 | false=>~Cv.f λhp=>by have:=h.2 hp;cases this
def Qco(x:Int):Prop:=3<=x/\x<=8
def AllZ(l:List Int):Prop:=∀ x∈l,x=0
def I64(x:Int):Prop:=-9223372036854775808<=x/\x<=9223372036854775807
def szS(s:Sp):Nat:=2^s.sh.toNat
theorem sh_get{s:Sp}(hs:Qco s.sh):∃ e z:Nat,s.sh=(e:Int)/\3<=e/\e<=8/\(2:Int)^e=(z:Int)/\8<=z/\z<=256/\szS s=z/\z=2^e:=by
 unfold Qco at hs
 obtain ⟨e,he⟩:∃ e:Nat,s.sh=e:=⟨s.sh.toNat,Oo⟩
 have h1:3<=e:=by omega
 have h2:e<=8:=by omega
 &⟨e,2^e,he,h1,h2,by push_cast;rfl,?_,?_,by unfold szS;rw [he];rfl,rfl⟩
 ·have:(2:Nat)^3<=2^e:=Ux Od h1
  omega
 ·have:(2:Nat)^e<=2^8:=Ux Od h2
  omega
theorem Jm{s:Sp}(hs:Qco s.sh):0<=s.sh/\s.sh<=8/\8<=szS s/\szS s<=256/\(2:Int)^s.sh.toNat=(szS s:Int):=by
 ð⟨e,z,he,h1,h2,h3,h4,h5,h6,h7⟩:=sh_get hs
 rw [h6]
 &⟨Oo,Oo,h4,h5,?_⟩
 rw [<- h3,he]
 rfl
theorem and_mod{a:Int}{e z:Nat}(h0:0<=a)(h1:a<=9223372036854775807)(he:e<=8)(hz:z=2^e):bits BinOp.and IntKind.i64 a ((z:Int)-1)=a%(z:Int):=by
 obtain ⟨n,rfl⟩:∃ n:Nat,a=n:=⟨a.toNat,Oo⟩
 subst hz
 have hz2:(2:Nat)^e<=2^8:=Ux Od he
 have hz1:0<(2:Nat)^e:=Nat.pow_pos Od
 have e1:(((2^e:Nat):Int)-1)=((2^e-1:Nat):Int):=by omega
 rw [e1]
 show IntKind.i64.wrap ((BitVec.ofInt 64 (n:Int) &&& BitVec.ofInt 64 ((2^e-1:Nat):Int)).toNat:Int)=_
 rw [BitVec.ofInt_natCast,BitVec.ofInt_natCast,BitVec.toNat_and,BitVec.toNat_ofNat,BitVec.toNat_ofNat,VC Oo,VC Oo,Ym]
 have:=UV n hz1
 rw [IntWalk.i64_in _ Oo]
 rfl
def nxF(fs:List Fe)(f:Int):Int:=if h:0<=f/\f.toNat<fs.length then (fs[f.toNat]'h.2).nx else -1
theorem nxF_z{fs:List Fe}{f:Int}(h:0<=f)(h2:f.toNat<fs.length):nxF fs f=(fs[f.toNat]'h2).nx:=by unfold nxF;rw [dif_pos ⟨h,h2⟩]
def itF(fs:List Fe):Nat->Int->Int
 | 0,f=>f
 | k+1,f=>itF fs k (nxF fs f)
theorem nxF_neg{fs:List Fe}{f:Int}(h:f<0):nxF fs f = -1:=by unfold nxF;rw [dif_neg Oo]
theorem nxF_at{fs:List Fe}{i:Nat}(h:i<fs.length):nxF fs i=fs[i].nx:=by
 unfold nxF
 rw [dif_pos ⟨Oo,by simpa using h⟩]
 rfl
theorem Xz{fs:List Fe}:∀ (k:Nat) {f:Int},f = -1->itF fs k f = -1
 | 0,f,h=>h
 | k+1,f,h=>by unfold itF;~Xz k (nxF_neg Oo)
theorem JG{fs:List Fe}:∀ (j k:Nat) (f:Int),itF fs (j+k) f=itF fs k (itF fs j f)
 | 0,k,f=>by rw [WS];rfl
 | j+1,k,f=>by
  rw [show j+1+k=(j+k)+1 by omega]
  show itF fs (j+k) (nxF fs f)=itF fs k (itF fs j (nxF fs f))
  ~JG j k _
theorem itF_succ{fs:List Fe}(k:Nat)(f:Int):itF fs (k+1) f=nxF fs (itF fs k f):=JG k 1 f
def NxIn(fs:List Fe):Prop:=∀ i (h:i<fs.length),-1<=fs[i].nx/\fs[i].nx<fs.length
theorem NxIn.nx{fs:List Fe}(h:NxIn fs)(f:Int):-1<=nxF fs f/\nxF fs f<fs.length:=by
 unfold nxF
 split
 ·~h _ _
 ·omega
theorem NxIn.it{fs:List Fe}(h:NxIn fs):∀ (k:Nat) (f:Int),-1<=f/\f<fs.length->-1<=itF fs k f/\itF fs k f<fs.length
 | 0,f,hf=>hf
 | k+1,f,_=>h.it k _ (h.nx f)
def EndF(fs:List Fe):Prop:=∀ i,i<fs.length->itF fs (fs.length+1) i = -1
def StrF(fs:List Fe):Prop:=∀ i,i<fs.length->∀ k,k<fs.length->itF fs (k+1) i≠i
theorem QcX:∀ (n:Nat) (l:List Nat),l.Nodup->(∀ x∈l,x<n)->l.length<=n
 | 0,l,_,h=>by
  cases l with
  | nil=>simp
  | cons a l=>~absurd (h a (WA ..)) (WZ _)
 | n+1,l,hd,h=>by
  have h1:=QcX n (l.filter (·≠n)) (hd.filter _) λx hx=>by
   have:=WI.1 hx
   have h2:=h x this.1
   have h3:x≠n:=by simpa using this.2
   omega
  have h2:l.length<=(l.filter (·≠n)).length+1:=by
   have e:l.length=(l.filter (·≠n)).length+(l.filter (λx=>!decide (x≠n))).length:=by
    clear h1 h hd
    induction l with
    | nil=>rfl
    | cons a l ih =>
     by_cases ha:a=n
     ·rw [VM,VM,if_neg (by simp [ha]),if_pos (by simp [ha]),WX,WX];omega
     ·rw [VM,VM,if_pos (by simp [ha]),if_neg (by simp [ha]),WX,WX];omega
   have h3:(l.filter (λx=>!decide (x≠n))).length<=1:=by
    have hd2:=hd.filter (λx=>!decide (x≠n))
    have hm:∀ x∈l.filter (λx=>!decide (x≠n)),x=n:=λx hx=>by
     have:=(WI.1 hx).2
     simpa using this
    revert hd2 hm
    generalize l.filter (λx=>!decide (x≠n))=m
    intro hd2 hm
    match m,hd2,hm with
    | [],_,_=>simp
    | [a],_,_=>simp
    | a :: b :: m,hd2,hm =>
     exfalso
     have ha:=hm a Os
     have hb:=hm b Os
     ~(Vs.1 hd2).1 b Os (ha.trans hb.symm)
   omega
  omega
theorem EndF.str{fs:List Fe}(h:EndF fs):StrF fs:=by
 intro i hi k hk e
 have h1:∀ m:Nat,itF fs ((k+1)*m) i=i:=by
  intro m
  induction m with
  | zero=>rfl
  | succ m ih=>rw [Nat.mul_succ,JG,ih,e]
 have h2:=h1 (fs.length+1)
 rw [VE,Nat.mul_succ] at h2
 rw [show (fs.length+1)*k+(fs.length+1)=(fs.length+1)+(fs.length+1)*k by omega,JG,h i hi,Xz _ rfl] at h2
 omega
theorem StrF.ends{fs:List Fe}(hn:NxIn fs)(h:StrF fs):EndF fs:=by
 intro i hi
 apply Classical.byContradiction
 intro hne
 have hin:∀ j,j<=fs.length+1->0<=itF fs j i/\itF fs j i<fs.length:=by
  intro j hj
  have h1:=hn.it j i Oo
  &⟨?_,h1.2⟩
  rcases UZ (itF fs j i) 0 with h2 | h2
  ·exfalso
   apply hne
   rw [show fs.length+1=j+(fs.length+1-j) by omega,JG]
   ~Xz _ Oo
  ·~h2
 have hnd:((List.range (fs.length+1)).map λj=>(itF fs j i).toNat).Nodup:=by
  rw [Vh,Vc]
  &Wy.2 λa b ha hb hab e=>?_
  simp only [WV] at ha hb
  simp only [UH] at e
  have h1:=hin a Oo
  have h2:=hin b Oo
  have e2:itF fs b i=itF fs a i:=by omega
  rw [show b=a+((b-a-1)+1) by omega,JG] at e2
  have h3:=h (itF fs a i).toNat Oo (b-a-1) Oo
  apply h3
  rw [show (((itF fs a i).toNat:Nat):Int)=itF fs a i by omega]
  ~e2
 have:=QcX fs.length _ hnd λx hx=>by
  ð⟨j,hj,rfl⟩:=Wk.1 hx
  have:=hin j (by have:=Wz.1 hj;omega)
  omega
 rw [Wb,WV] at this
 omega
def Stp(ow st:Int):Prop:=0<=ow/\ow<=4294967295/\∃ b:Int,0<=b/\b<4/\st=ow+b*4294967296
theorem Qek{ow st:Int}:Stp ow st<->0<=ow/\ow<=4294967295/\0<=st/\st%4294967296=ow/\st/4294967296<4:=by
 unfold Stp
 constructor
 ·rintro ⟨h1,h2,b,h3,h4,rfl⟩
  omega
 ·rintro ⟨h1,h2,h3,h4,h5⟩
  ~⟨h1,h2,st/4294967296,Oo,h5,Oo⟩
def ZeroF(s:Sp)(i:Nat):Prop:=∀ a (h:a<s.ws.length),i*szS s<=a->a<(i+1)*szS s->s.ws[a]=0
def FreeF(s:Sp)(i:Nat)(f:Fe):Prop:=f.ow = -1/\f.st = -1/\f.nx = -1/\ZeroF s i
def Qez(s:Sp)(i:Nat)(f:Fe):Prop:=Stp f.ow f.st/\-1<=f.nx/\f.nx<s.fs.length/\f.nx≠i/\∀ j (h:j<s.fs.length),f.nx=j->s.fs[j].ow=f.ow/\s.fs[j].st=f.st
def UqF(fs:List Fe)(n:Nat):Prop:=∀ i j (hi:i<fs.length) (hj:j<fs.length),i<j->j<n->fs[i].nx=fs[j].nx->fs[i].nx = -1
structure Qc4(s:Sp):Prop where
 sh:Qco s.sh
 lo:2<=s.fs.length
 hi:s.fs.length<=64
 wl:s.ws.length=s.fs.length*szS s
structure ZL(s:Sp):Prop where
 shp:Qc4 s
 fm:∀ i (h:i<s.fs.length),FreeF s i s.fs[i]\/Qez s i s.fs[i]
 uq:UqF s.fs s.fs.length
 ends:EndF s.fs
theorem Ze{s:Sp}(fm:∀ i (h:i<s.fs.length),FreeF s i s.fs[i]\/Qez s i s.fs[i]):NxIn s.fs:=λi hi=>by
 rcases fm i hi with h | h
 ·rw [h.2.2.1];omega
 ·~⟨h.2.1,h.2.2.1⟩
def U64(x:Int):Prop:=0<=x/\x<=18446744073709551615
def SpW(s:Sp):Prop:=(∀ x∈s.ws,U64 x)/\∀ f∈s.fs,I64 f.ow/\I64 f.st/\I64 f.nx
def Qeh(fs:List Fe)(n m:Nat):Prop:=m<18446744073709551616/\∀ j,j<64->(m.testBit j=true<->∃ i,∃ h:i<fs.length,i<n/\fs[i].nx=j)
theorem bit_test{m j:Nat}(hm:m<18446744073709551616)(hj:j<64):bits BinOp.and IntKind.u64 ((m:Int)/2^j) 1=if m.testBit j then 1 else 0:=by
 have e1:((m:Int)/2^j)=((m/2^j:Nat):Int):=by push_cast;rfl
 have h1:m/2^j<18446744073709551616:=Nat.lt_of_le_of_lt (Nat.div_le_self _ _) hm
 rw [e1]
 show IntKind.u64.wrap ((BitVec.ofInt 64 ((m/2^j:Nat):Int) &&& BitVec.ofInt 64 ((1:Nat):Int)).toNat:Int)=_
 rw [BitVec.ofInt_natCast,BitVec.ofInt_natCast,BitVec.toNat_and,BitVec.toNat_ofNat,BitVec.toNat_ofNat,VC Oo,VC Od,Nat.and_one_is_mod]
 have h2:m.testBit j=(m/2^j%2 == 1):=by rw [Nat.testBit_eq_decide_div_mod_eq];rfl
 rw [h2]
 rw [IntWalk.u64_in _ Oo]
 rcases Nat.mod_two_eq_zero_or_one (m/2^j) with h | h <;> rw [h] <;> rfl
theorem bit_set{m j:Nat}(hm:m<18446744073709551616)(hj:j<64):bits BinOp.or IntKind.u64 (m:Int) (2^j)=((m ||| 2^j:Nat):Int)/\m ||| 2^j<18446744073709551616:=by
 have e1:((2:Int)^j)=((2^j:Nat):Int):=by push_cast;rfl
 have h1:(2:Nat)^j<2^64:=Nat.pow_lt_pow_right Od hj
 have h2:m ||| 2^j<2^64:=Nat.or_lt_two_pow Oo h1
 rw [e1]
 &⟨?_,Oo⟩
 show IntKind.u64.wrap ((BitVec.ofInt 64 (m:Int) ||| BitVec.ofInt 64 ((2^j:Nat):Int)).toNat:Int)=_
 rw [BitVec.ofInt_natCast,BitVec.ofInt_natCast,BitVec.toNat_or,BitVec.toNat_ofNat,BitVec.toNat_ofNat,VC Oo,VC Oo,IntWalk.u64_in _ Oo]
theorem Qeh.skip{fs:List Fe}{n m:Nat}(h:Qeh fs n m)(hn:n<fs.length)(hx:fs[n].nx<0):Qeh fs (n+1) m:=⟨h.1,λj hj=>(h.2 j hj).trans ⟨λ⟨i,hi,h1,h2⟩=>⟨i,hi,Oo,h2⟩,λ⟨i,hi,h1,h2⟩=>by
 rcases VG.1 h1 with h3 | h3
 ·~⟨i,hi,h3,h2⟩
 ·subst h3;omega⟩⟩
theorem Qeh.set{fs:List Fe}{n m p:Nat}(h:Qeh fs n m)(hn:n<fs.length)(hp:p<64)(hx:fs[n].nx=p):Qeh fs (n+1) (m ||| 2^p):=by
 &⟨(bit_set h.1 hp).2,λj hj=>?_⟩
 rw [Nat.testBit_or,Nat.testBit_two_pow,VK,h.2 j hj,decide_eq_true_iff]
 constructor
 ·rintro (⟨i,hi,h1,h2⟩ | e)
  ·~⟨i,hi,Oo,h2⟩
  ·~⟨n,hn,Oo,by rw [hx,e]⟩
 ·rintro ⟨i,hi,h1,h2⟩
  rcases VG.1 h1 with h3 | h3
  ·~.inl ⟨i,hi,h3,h2⟩
  ·subst h3;right;omega
theorem UqF.skip{fs:List Fe}{n:Nat}(h:UqF fs n)(hn:n<fs.length)(hx:fs[n].nx = -1):UqF fs (n+1):=λi j hi hj hij hjn e=>by
 rcases VG.1 hjn with h3 | h3
 ·~h i j hi hj hij h3 e
 ·subst h3;rw [e];~hx
theorem UqF.set{fs:List Fe}{n m p:Nat}(h:UqF fs n)(hn:n<fs.length)(hb:Qeh fs n m)(hp:p<64)(hx:fs[n].nx=p)(hm:m.testBit p=false):UqF fs (n+1):=λi j hi hj hij hjn e=>by
 rcases VG.1 hjn with h3 | h3
 ·~h i j hi hj hij h3 e
 ·subst h3
  exfalso
  have:=(hb.2 p hp).2 ⟨i,hi,hij,e.trans hx⟩
  rw [hm] at this
  cases this
theorem UqF.not{fs:List Fe}{n m p:Nat}(hn:n<fs.length)(hb:Qeh fs n m)(hp:p<64)(hx:fs[n].nx=p)(hm:m.testBit p=true):¬ UqF fs fs.length:=λh=>by
 ð⟨i,hi,h1,h2⟩:=(hb.2 p hp).1 hm
 have:=h i n hi hn h1 hn (h2.trans hx.symm)
 omega
def FmTo(s:Sp)(n:Nat):Prop:=∀ i (h:i<s.fs.length),i<n->FreeF s i s.fs[i]\/Qez s i s.fs[i]
theorem FmTo.step{s:Sp}{n:Nat}(h:FmTo s n)(hn:n<s.fs.length)(k:FreeF s n s.fs[n]\/Qez s n s.fs[n]):FmTo s (n+1):=λi hi hin=>by
 rcases VG.1 hin with h3 | h3
 ·~h i hi h3
 ·subst h3;~k
theorem allz_iff{s:Sp}{k z:Nat}(hz:szS s=z)(hk:k*z+z<=s.ws.length):AllZ ((s.ws.drop (k*z)).take z)<->ZeroF s k:=by
 unfold ZeroF
 rw [hz,Vq]
 constructor
 ·intro h a ha h1 h2
  have:s.ws[a]∈(s.ws.drop (k*z)).take z:=by
   &WN.2 ⟨a-k*z,by rw [Wi,Ww];omega,?_⟩
   rw [UP,UQ]
   congr 1
   omega
  ~h _ this
 ·intro h x hx
  ð⟨i,hi,rfl⟩:=WN.1 hx
  rw [Wi,Ww] at hi
  rw [UP,UQ]
  ~h _ _ Oo Oo
theorem ZL.not_fm{s:Sp}{n:Nat}(hn:n<s.fs.length)(h:¬ (FreeF s n s.fs[n]\/Qez s n s.fs[n])):¬ ZL s:=λk=>h (k.fm n hn)
def fC(x:Nat):List DV:=[.lit (.float .f64 x)]
def sC(x:ByteArray):List DV:=[.lit (.string x)]
def lC{α:Type}(c:α->List DV)(q:List α):List DV:=[.sl (q.map c)]
def Qa9(k:IntKind)(p q:Int):Int:=k.wrap (p*2^min q.toNat k.bits)
def QbO(k:IntKind)(p q:Int):Int:=p.fdiv (2^min q.toNat k.bits)
def xorN(k:IntKind)(p:Int):Int:=k.wrap (BitVec.ofInt k.bits (if k.signed then -1 else k.max) ^^^ BitVec.ofInt k.bits p).toNat
mutual
def scB:DV->Bool
 | .any=>true
 | .lit _=>true
 | .own _ _ _=>true
 | .ptr _ _ _=>true
 | .agg xs=>scLB xs
 | .tup xs=>scLB xs
 | _=>false
def scLB:List DV->Bool
 | []=>true
 | d :: l=>scB d && scLB l
end
mutual
theorem scB_ok:∀ {d:DV},scB d=true->Sc d
 | .any,_=>.any
 | .lit _,_=>.lit
 | .own _ _ _,_=>.own
 | .ptr _ _ _,_=>.ptr
 | .agg xs,h=>.agg (QfN (by simpa [scB] using h))
 | .tup xs,h=>.tup (QfN (by simpa [scB] using h))
 | .sl _,h=>by simp [scB] at h
 | .pp _,h=>by simp [scB] at h
 | .fn _ _,h=>by simp [scB] at h
theorem QfN:∀ {l:List DV},scLB l=true->∀ d∈l,Sc d
 | [],_,d,hd=>by cases hd
 | x :: l,h,d,hd=>by
  simp only [scLB,W9] at h
  cases hd with
  | head=>~scB_ok h.1
  | tail _ hd=>~QfN h.2 d hd
end
theorem scL{l:List DV}(h:scLB l=true):∀ d∈l,Sc d:=QfN h
theorem scC{α:Type}{c:α->List DV}(h:∀ x,scLB (c x)=true):∀ x,∀ d∈c x,Sc d:=λx=>QfN (h x)
theorem QV.mono{P:Program}{ops:Array Oper}{l:List Oper}{st:DSt}{K K':QfE->DSt->Prop}(h:QV P ops l st K)(hk:∀ o s,K o s->K' o s):QV P ops l st K':=by
 ð⟨outs,env',sto',nxt',h1,h2⟩:=h
 ~⟨outs,env',sto',nxt',h1,hk _ _ h2⟩
section
variable{P:Program}{nt n0:Nat}{Q:Exit->DSt->Prop}{st:DSt}
theorem d_rs{id:Nat}{ops:Array Oper}{l:List Oper}{y:Code}(hl:ops=l.toArray)(h:QV P l.toArray l st λouts s=>seqB nt l outs=true/\DWp P nt n0 y Q s):DWp P nt n0 (.seq (.region id ops false) y) Q st :=
 d_seq λK hK=>d_region hl (h.mono λo s hs=>⟨hs.1,hK s hs.2⟩)
theorem d_as{id:Nat}{ops:Array Oper}{l:List Oper}{y:Code}(hm:P.follows .mixedOrders=true)(hl:ops=l.toArray)(hk:backB l.toArray=true)(h:QV P l.toArray l st λouts s=>(seqB nt l outs=true/\ordB l.toArray outs=true)/\DWp P nt n0 y Q s):DWp P nt n0 (.seq (.region id ops true) y) Q st :=
 d_seq λK hK=>d_any hm hl hk (h.mono λo s hs=>⟨hs.1,hK s hs.2⟩)
theorem d_nilB{c:Code}{env:Env}{sto:Sto}{nxt:Nat}(b j z:Nat)(hz:0<z){n:Nat}{fz:Bool}{cs:List DV}(hb:sto.get b=some ⟨n,false,fz,[cs]⟩)(hj:cs[j]?=some (.lit (.slice none 0 0)))
  (h:DWp P nt n0 c Q ⟨env,(b,⟨n,false,fz,[cs.set j (.own nxt 0 0)]⟩) :: (nxt,⟨z,true,false,[]⟩) :: (sto.drop nxt).drop b,nxt+1⟩):DWp P nt n0 c Q ⟨env,sto,nxt⟩:=λC h1 h2 a w hs=>by
 &h C h1 h2 a w ?_
 ð⟨m,rfl,hm,hF⟩:=hs
 have hn:m.σ nxt=none:=hF nxt (Wl _)
 ð⟨t1,t2⟩:=QcV hm.inv hn m.w ⟨z,none,true,noI⟩ rfl rfl rfl (Wl _) (λ_ _=>rfl) (λg c h=>by cases h)
 have hbn:b≠nxt:=by
  rintro rfl
  ð⟨e,he,_⟩:=hm.sto _ _ hb
  rw [hn] at he;cases he
 &⟨⟨m.w,m.M,ZN m.σ nxt (some ⟨z,none,true,noI⟩)⟩,rfl,⟨t1,hm.M,hm.size,hm.defers,hm.org.trans t2.ent,hm.lim0,λj=>(hm.env j).ext t2.toExt,λs ob hs=>?_⟩,λs hs=>?_⟩
 ·simp only [Sto.get_cons,Sto.drop_get] at hs
  by_cases hsb:s=b
  ·subst hsb
   rw [if_pos rfl] at hs
   injection hs with hs
   subst hs
   have hold:=Holds.loc hm.inv t2 (by simpa using hbn) (hm.sto s _ hb)
   ð⟨e,q1,q2,q3,q4⟩:=hold
   &⟨e,q1,q2,q3,?_⟩
   cases hblk:e.blk with
   | none=>rw [hblk] at q4;~absurd q4.1 Os
   | some p =>
    ð⟨g,cap⟩:=p
    rw [hblk] at q4
    ð⟨row,deep⟩:=q4
    have old:∀ (i:Nat) x (k:Nat) d,[cs.set j (.own nxt 0 0)][i]?=some x->x[k]?=some d->(i=0/\k=j/\d = .own nxt 0 0)\/(i=0/\cs[k]?=some d):=λi x k d hx hd=>by
     cases i with
     | succ i=>simp at hx
     | zero =>
      simp only [WJ,Wx] at hx
      subst hx
      by_cases hkj:k=j
      ·subst hkj
       rw [WD (Qcy hj)] at hd
       injection hd with hd
       ~.inl ⟨rfl,rfl,hd.symm⟩
      ·rw [WC Oo] at hd
       ~.inr ⟨rfl,hd⟩
    &⟨QcW row rfl rfl rfl (λi x hx=>?_) (λi x k d u hx hd hu=>?_),deep.conv rfl (λ_ r=>r) λi x k z' l hx hd=>?_⟩
    ·cases i with
     | succ i=>simp at hx
     | zero =>
      simp only [WJ,Wx] at hx
      subst hx
      rw [Wv]
      ~row.sz 0 cs rfl
    ·rcases old i x k d hx hd with ⟨rfl,rfl,rfl⟩ | ⟨rfl,hd⟩
     ·ð⟨u',w1,w2,w3⟩:=Qaj row (i:=0) (x:=cs) rfl hj
      rw [hu] at w1
      injection w1 with w1
      subst w1
      &⟨w2,?_⟩
      have:Rep (⟨m.w,m.M,ZN m.σ nxt (some ⟨z,none,true,noI⟩)⟩:Mem) u (.lit (.slice none 0 0)):=w3
      rw [this.lit_inv]
      ~.ownNil (Qi _ _ _) rfl
     ·ð⟨u',w1,w2⟩:=Qaj row (i:=0) (x:=cs) rfl hd
      rw [hu] at w1
      injection w1 with w1
      subst w1
      ~w2
    ·rcases old i x k _ hx hd with ⟨_,_,h⟩ | ⟨rfl,hd⟩
     ·cases h
     ·~⟨cs,rfl,hd⟩
  ·rw [if_neg hsb] at hs
   by_cases hs':s=nxt
   ·subst hs'
    rw [if_pos rfl] at hs
    injection hs with hs
    subst hs
    ~⟨_,Qi _ _ _,rfl,rfl,rfl,hz⟩
   ·rw [if_neg hs',if_neg hsb,if_neg hs'] at hs
    ~Holds.loc hm.inv t2 (by simpa using hs') (hm.sto s ob hs)
 ·dsimp only at hs ⊢
  rw [QZ _ _ Oo]
  ~hF s (by dsimp only;omega)
theorem wkE{n0:Nat}{st st':DSt}{fr1 fr2:List Nat}(ρ:Ren)
  (h1:CvE st.sto ρ st.env st'.env fr1:=by repeat' (first | ~CvE.nil | apply CvE.cons | ~.lit | ~.own rfl | ~.sl | ~.nil | ~.ptr rfl | ~.ownE rfl (by first | omega | (simp;done) | (simp;omega)) | ~.frzM rfl (by first | omega | (simp;done) | (simp;omega)) | ~.dfzM rfl (λ_=>rfl) (λ_=>rfl) (by first | omega | (simp;done) | (simp;omega)) | ~.any | ~.pp | ~CvL.nil | apply CvL.cons | apply Cv.agg | apply Cv.tup | apply Cv.fn))
  (h2:CvS st.sto ρ st'.sto fr2:=by repeat' (first | ~CvS.nil | apply CvS.cons rfl rfl | ~.arr rfl | ~CvO.same (dpM λ_=>rfl) | apply CvO.rowAt (λ_=>rfl) | apply CvO.box | ~CvL.nil | apply CvL.cons | ~CvL.numbers _ | ~CvL.bools _ | ~.lit | ~.own rfl | ~.sl | ~.nil | ~.ptr rfl | ~.ownE rfl (by first | omega | (simp;done) | (simp;omega)) | ~.frzM rfl (by first | omega | (simp;done) | (simp;omega)) | ~.dfzM rfl (λ_=>rfl) (λ_=>rfl) (by first | omega | (simp;done) | (simp;omega)) | ~.any | ~.pp))
  (h3:okR ρ (fr1++fr2) n0 st'.nxt=true:=by rfl):ZM n0 st st':=WeakE.weak ⟨ρ,fr1,fr2,h1,h2,h3⟩
theorem finE{fn:Func}{n0:Nat}{r:DV}{S':Sto}{e:Exit}{st:DSt}{ds:List DV}{fr1 fr2:List Nat}(ρ:Ren)(hl:ResL P st fn.results.toList ds)
  (h1:Cv st.sto ρ (resV ds) r fr1:=by repeat' (first | ~.lit | ~.own rfl | ~.sl | ~.nil | ~.ptr rfl | ~.ownE rfl (by first | omega | (simp;done) | (simp;omega)) | ~.frzM rfl (by first | omega | (simp;done) | (simp;omega)) | ~.dfzM rfl (λ_=>rfl) (λ_=>rfl) (by first | omega | (simp;done) | (simp;omega)) | ~CvL.nil | apply CvL.cons | apply Cv.agg | apply Cv.tup | apply Cv.fn | ~.any | ~.pp))
  (h2:CvS st.sto ρ S' fr2:=by repeat' (first | ~CvS.nil | apply CvS.cons rfl rfl | ~.arr rfl | ~CvO.same (dpM λ_=>rfl) | apply CvO.rowAt (λ_=>rfl) | apply CvO.box | ~CvL.nil | apply CvL.cons | ~CvL.numbers _ | ~CvL.bools _ | ~.lit | ~.own rfl | ~.sl | ~.nil | ~.ptr rfl | ~.ownE rfl (by first | omega | (simp;done) | (simp;omega)) | ~.frzM rfl (by first | omega | (simp;done) | (simp;omega)) | ~.dfzM rfl (λ_=>rfl) (λ_=>rfl) (by first | omega | (simp;done) | (simp;omega)) | ~.any | ~.pp))
  (h3:okR ρ (fr1++fr2) n0 (idb S' n0)=true:=by rfl)(he:e = .normal\/e = .ret:=by first | ~.inr rfl | ~.inl rfl):RetD P fn n0 r S' e st:=⟨he,ds,ρ,fr1,fr2,hl,h1,h2,h3⟩
end
section
variable{P:Program}{env:Env}{sto:Sto}{nxt:Nat}{o:Oper}
theorem m_add{t:Nat}{x y:Operand}{t':Nat}{k:IntKind}{p q:Int}(ho:o.op = .binOp .add t x y t':=by rfl)(hx:opd env x = .lit (.int k p):=by rfl)(hy:opd env y = .lit (.int k q):=by rfl):Qv P o env sto nxt ⟨.lit (.int k (k.wrap (p+q))),[],[],0⟩:=QeT ho hx hy rfl
theorem m_sub{t:Nat}{x y:Operand}{t':Nat}{k:IntKind}{p q:Int}(ho:o.op = .binOp .sub t x y t':=by rfl)(hx:opd env x = .lit (.int k p):=by rfl)(hy:opd env y = .lit (.int k q):=by rfl):Qv P o env sto nxt ⟨.lit (.int k (k.wrap (p-q))),[],[],0⟩:=QeT ho hx hy rfl
theorem m_mul{t:Nat}{x y:Operand}{t':Nat}{k:IntKind}{p q:Int}(ho:o.op = .binOp .mul t x y t':=by rfl)(hx:opd env x = .lit (.int k p):=by rfl)(hy:opd env y = .lit (.int k q):=by rfl):Qv P o env sto nxt ⟨.lit (.int k (k.wrap (p*q))),[],[],0⟩:=QeT ho hx hy rfl
theorem m_bits{op:BinOp}{t:Nat}{x y:Operand}{t':Nat}{k:IntKind}{p q:Int}(ho:o.op = .binOp op t x y t':=by rfl)(hx:opd env x = .lit (.int k p):=by rfl)(hy:opd env y = .lit (.int k q):=by rfl)(h:op = .and\/op = .or\/op = .xor\/op = .andNot:=by first | ~.inl rfl | ~.inr (.inl rfl) | ~.inr (.inr (.inl rfl)) | ~.inr (.inr (.inr rfl))):Qv P o env sto nxt ⟨.lit (.int k (bits op k p q)),[],[],0⟩:=QeT ho hx hy (Qcl.bitsE h rfl).ok
theorem m_lss{t:Nat}{x y:Operand}{t':Nat}{k:IntKind}{p q:Int}(ho:o.op = .binOp .lss t x y t':=by rfl)(hx:opd env x = .lit (.int k p):=by rfl)(hy:opd env y = .lit (.int k q):=by rfl):Qv P o env sto nxt ⟨.lit (.bool (decide (p<q))),[],[],0⟩:=QeT ho hx hy Qcl.lt.ok
theorem m_leq{t:Nat}{x y:Operand}{t':Nat}{k:IntKind}{p q:Int}(ho:o.op = .binOp .leq t x y t':=by rfl)(hx:opd env x = .lit (.int k p):=by rfl)(hy:opd env y = .lit (.int k q):=by rfl):Qv P o env sto nxt ⟨.lit (.bool (decide (p<=q))),[],[],0⟩:=QeT ho hx hy Qcl.le.ok
theorem m_gtr{t:Nat}{x y:Operand}{t':Nat}{k:IntKind}{p q:Int}(ho:o.op = .binOp .gtr t x y t':=by rfl)(hx:opd env x = .lit (.int k p):=by rfl)(hy:opd env y = .lit (.int k q):=by rfl):Qv P o env sto nxt ⟨.lit (.bool (decide (q<p))),[],[],0⟩:=QeT ho hx hy Qcl.gt.ok
theorem m_geq{t:Nat}{x y:Operand}{t':Nat}{k:IntKind}{p q:Int}(ho:o.op = .binOp .geq t x y t':=by rfl)(hx:opd env x = .lit (.int k p):=by rfl)(hy:opd env y = .lit (.int k q):=by rfl):Qv P o env sto nxt ⟨.lit (.bool (decide (q<=p))),[],[],0⟩:=QeT ho hx hy Qcl.ge.ok
theorem m_eql{t:Nat}{x y:Operand}{t':Nat}{k:IntKind}{p q:Int}(ho:o.op = .binOp .eql t x y t':=by rfl)(hx:opd env x = .lit (.int k p):=by rfl)(hy:opd env y = .lit (.int k q):=by rfl):Qv P o env sto nxt ⟨.lit (.bool (decide (p=q))),[],[],0⟩:=QeT ho hx hy Qcl.eq.ok
theorem m_neq{t:Nat}{x y:Operand}{t':Nat}{k:IntKind}{p q:Int}(ho:o.op = .binOp .neq t x y t':=by rfl)(hx:opd env x = .lit (.int k p):=by rfl)(hy:opd env y = .lit (.int k q):=by rfl):Qv P o env sto nxt ⟨.lit (.bool (!decide (p=q))),[],[],0⟩:=QeT ho hx hy Qcl.ne.ok
theorem m_shlE{t:Nat}{x y:Operand}{t':Nat}{k j:IntKind}{p q:Int}(h:0<=q)(ho:o.op = .binOp .shl t x y t':=by rfl)(hx:opd env x = .lit (.int k p):=by rfl)(hy:opd env y = .lit (.int j q):=by rfl):Qv P o env sto nxt ⟨.lit (.int k (Qa9 k p q)),[],[],0⟩:=m_shl h ho hx hy
theorem m_shrE{t:Nat}{x y:Operand}{t':Nat}{k j:IntKind}{p q:Int}(h:0<=q)(ho:o.op = .binOp .shr t x y t':=by rfl)(hx:opd env x = .lit (.int k p):=by rfl)(hy:opd env y = .lit (.int j q):=by rfl):Qv P o env sto nxt ⟨.lit (.int k (QbO k p q)),[],[],0⟩:=m_shr h ho hx hy
theorem m_xorE{t:Nat}{x:Operand}{k:IntKind}{p:Int}(ho:o.op = .unOp .xor t x:=by rfl)(hx:opd env x = .lit (.int k p):=by rfl):Qv P o env sto nxt ⟨.lit (.int k (xorN k p)),[],[],0⟩:=m_xor ho hx
theorem Jn{c:Operand}{args:Array Operand}{l:List Operand}{ty:Array TypeId}{f:Nat}{cap ds:List DV}{S:Sto}{r:DV}{S':Sto}{fr1 fr2:List Nat}(ρ:Ren)(hc:DCall P f ds S r S')(hr:scB r=true)(hsS:ScS S')(ho:o.op = .call ⟨.value c,args,ty⟩:=by rfl)(hl:args=l.toArray:=by rfl)(hcl:Qbv env c f cap:=by first | ~.func | ~.tmp rfl | ~.clo rfl)
  (hA:CvL sto ρ (l.map (opd env)++cap) ds fr1:=by repeat' (first | ~CvL.nil | apply CvL.cons | ~.lit | ~.own rfl | ~.sl | ~.nil | ~.ptr rfl | ~.ownE rfl (by first | omega | (simp;done) | (simp;omega)) | ~.frzM rfl (by first | omega | (simp;done) | (simp;omega)) | ~.dfzM rfl (λ_=>rfl) (λ_=>rfl) (by first | omega | (simp;done) | (simp;omega)) | ~.any | ~.pp | apply Cv.agg | apply Cv.tup | apply Cv.fn))
  (hS:CvS sto ρ S fr2:=by repeat' (first | ~CvS.nil | apply CvS.cons rfl rfl | ~.arr rfl | ~CvO.same (dpM λ_=>rfl) | apply CvO.rowAt (λ_=>rfl) | apply CvO.box | ~CvL.nil | apply CvL.cons | ~CvL.numbers _ | ~CvL.bools _ | ~.lit | ~.own rfl | ~.sl | ~.nil | ~.ptr rfl | ~.ownE rfl (by first | omega | (simp;done) | (simp;omega)) | ~.frzM rfl (by first | omega | (simp;done) | (simp;omega)) | ~.dfzM rfl (λ_=>rfl) (λ_=>rfl) (by first | omega | (simp;done) | (simp;omega))))
  (hok:okC ρ (fr1++fr2) S.length=true:=by rfl)(hkn:Qf6 sto ρ=true:=by rfl):Qv P o env sto nxt ⟨ren (phi ρ S.length nxt) r,QaK ρ S.length nxt S',ρ.map (·.2)++(fr1++fr2),idb S' S.length-S.length⟩:=by
 have:=r_callB (P:=P) (nxt:=nxt) ho hl hcl hc (scB_ok hr) hsS hA hS hok hkn
 simpa [outOf] using this
theorem m_cG{c:Operand}{args:Array Operand}{l:List Operand}{ty:Array TypeId}{f:Nat}{cap ds:List DV}{S:Sto}{r:DV}{S':Sto}{fr1 fr2:List Nat}(ρ:Ren)(hc:DCall P f ds S r S')(ho:o.op = .call ⟨.value c,args,ty⟩:=by rfl)(hl:args=l.toArray:=by rfl)(hcl:Qbv env c f cap:=by first | ~.func | ~.tmp rfl | ~.clo rfl)
  (hA:CvL sto ρ (l.map (opd env)++cap) ds fr1:=by repeat' (first | ~CvL.nil | apply CvL.cons | ~.lit | ~.own rfl | ~.sl | ~.nil | ~.ptr rfl | ~.ownE rfl (by first | omega | (simp;done) | (simp;omega)) | ~.frzM rfl (by first | omega | (simp;done) | (simp;omega)) | ~.dfzM rfl (λ_=>rfl) (λ_=>rfl) (by first | omega | (simp;done) | (simp;omega)) | ~.any | ~.pp | apply Cv.agg | apply Cv.tup | apply Cv.fn))
  (hS:CvS sto ρ S fr2:=by repeat' (first | ~CvS.nil | apply CvS.cons rfl rfl | ~.arr rfl | ~CvO.same (dpM λ_=>rfl) | apply CvO.rowAt (λ_=>rfl) | apply CvO.box | ~CvL.nil | apply CvL.cons | ~CvL.numbers _ | ~CvL.bools _ | ~.lit | ~.own rfl | ~.sl | ~.nil | ~.ptr rfl | ~.ownE rfl (by first | omega | (simp;done) | (simp;omega)) | ~.frzM rfl (by first | omega | (simp;done) | (simp;omega)) | ~.dfzM rfl (λ_=>rfl) (λ_=>rfl) (by first | omega | (simp;done) | (simp;omega))))
  (hok:okC ρ (fr1++fr2) S.length=true:=by rfl)(hkn:Qf6 sto ρ=true:=by rfl):Qv P o env sto nxt ⟨ren (phi ρ S.length nxt) r,QaK ρ S.length nxt S'++Qdr sto (fr1++fr2),ρ.map (·.2)++(fr1++fr2),idb S' S.length-S.length⟩:=r_callF ho hl hcl hc hA hS hok hkn
theorem DCall.conv{f:FuncId}{ds:List DV}{S:Sto}{r r':DV}{S' S'':Sto}{fr1 fr2:List Nat}(h:DCall P f ds S r S')(ρ:Ren)(h1:Cv S' ρ r r' fr1)(h2:CvS S' ρ S'' fr2)(h3:okR ρ (fr1++fr2) S.length (idb S'' S.length)=true):DCall P f ds S r' S'':=⟨h.1,λw M σ vs hI hS hσ hR=>by
 &Calls.mono (h.2 w M σ vs hI hS hσ hR) λe w' ⟨v,σ',he,q1,q2,q3,q4,q5⟩=>?_
 ð⟨m',k1,k2,k3,k4,k5,k6,k7⟩:=weak_mem (n0:=S.length) (σ0:=σ) q1 q4 h3 h2 (λs hs=>Wj _ hs) q2 hσ
 ð⟨mw,mM,mσ⟩:=m'
 dsimp only at k1 k2
 subst k1
 subst k2
 have:=k4 _ _ fr1 _ h1 (λs hs=>Wf _ hs) q3
 ~⟨v,mσ,he,k3,k6,this,k5,k7⟩⟩
end
section
variable{α β ρ σ:Type}
theorem loop_inv{f:σ->Option (LS σ β)}(I:σ->Prop)(Q:β->Prop)(μ:σ->Nat)
  (h:∀ s,I s->(∃ s',f s=some (.go s')/\I s'/\μ s' < μ s)\/(∃ b,f s=some (.out b)/\Q b)):∀ (n:Nat) (s:σ),μ s=n->I s->∃ b,Qh f s=some b/\Q b:=by
 intro n
 induction n using Nat.strongRecOn with
 | _ n ih =>
  intro s hn hs
  rcases h s hs with ⟨s',h1,h2,h3⟩ | ⟨b,h1,h2⟩
  ·ð⟨b,k1,k2⟩:=ih (μ s') Oo s' rfl h2
   ~⟨b,(Qfr h1).trans k1,k2⟩
  ·~⟨b,Qcw h1,h2⟩
theorem Qf3{f:σ->Option (LS σ β)}{s:σ}(I:σ->Prop)(Q:β->Prop)(μ:σ->Nat)(hs:I s)
  (h:∀ s,I s->(∃ s',f s=some (.go s')/\I s'/\μ s' < μ s)\/(∃ b,f s=some (.out b)/\Q b)):∃ b,Qh f s=some b/\Q b:=loop_inv I Q μ h _ s rfl hs
theorem loop_to{f:σ->Option (LS σ β)}{s:σ}{b:β}(I:σ->Prop)(μ:σ->Nat)(hs:I s)
  (h:∀ s,I s->(∃ s',f s=some (.go s')/\I s'/\μ s' < μ s)\/f s=some (.out b)):Qh f s=some b:=by
 ð⟨c,h1,rfl⟩:=Qf3 I (λc=>c=b) μ hs λs hs=>(h s hs).imp id λe=>⟨b,e,rfl⟩
 ~h1
theorem Qdv{x:Option α}{a:α}{K:α->Option β}{r:β}(h:x=some a)(k:K a=some r):x.bind K=some r:=by rw [h];~k
theorem bndR_eq{x:Option (β ⊕ ρ)}{b:β}{K:β->Option ρ}(h:x=some (.inl b)):bndR x K=K b:=by rw [h];rfl
theorem bndR_eqR{x:Option (β ⊕ ρ)}{r:ρ}{K:β->Option ρ}(h:x=some (.inr r)):bndR x K=some r:=by rw [h];rfl
theorem Qgp{l:List α}{i:Nat}(h:i<l.length):at_ l (i:Int)=some l[i]:=by
 unfold at_
 rw [if_pos Oo,Wd,Wa h]
theorem at_int{l:List α}{i:Int}(h0:0<=i)(h:i.toNat<l.length):at_ l i=some l[i.toNat]:=by
 unfold at_
 rw [if_pos h0,Wa h]
theorem at_ex{l:List α}{i:Int}(h0:0<=i)(h:i<l.length):∃ v,at_ l i=some v/\v∈l:=⟨l[i.toNat]' Oo,at_int h0 Oo,Wc _⟩
end
theorem Qd{n:Int}(h:-9223372036854775808<=n/\n<=9223372036854775807):w64 n=n:=Qbw h
theorem Xv{n:Int}(h:0<=n/\n<=18446744073709551615):wu n=n:=QaO h
theorem shl_pow{p:Int}{e:Nat}(he:e<=64)(h:-9223372036854775808<=p*2^e/\p*2^e<=9223372036854775807):Qa9 .i64 p (e:Int)=p*2^e:=by
 unfold Qa9
 rw [Wd,W7 (show e<=IntKind.i64.bits from he)]
 ~Qd h
section
variable{sto:Sto}
theorem pu_nil:QaH sto []=some ([],[]):=rfl
theorem pu_lit{v:Value}{l b:List DV}{u:List Nat}(h:QaH sto l=some (b,u)):QaH sto (.lit v :: l)=some (.lit v :: b,u):=by
 unfold QaH
 rw [h]
 rfl
theorem pu_sl{xs:List (List DV)}{l b:List DV}{u:List Nat}(h:QaH sto l=some (b,u)):QaH sto (.sl xs :: l)=some (.sl xs :: b,u):=by
 unfold QaH
 rw [h]
 rfl
theorem pu_own{α:Type}{c:α->List DV}{ys:List α}{s z:Nat}{f:Bool}{l b:List DV}{u:List Nat}(hg:sto.get s=some ⟨z,true,f,ys.map c⟩)(h:QaH sto l=some (b,u)):QaH sto (.own s 0 ys.length :: l)=some (.sl (ys.map c) :: b,s :: u):=by
 have e:pure1 sto (.own s 0 ys.length)=some (.sl (ys.map c),[s]):=by
  unfold pure1
  simp only [hg]
  rw [if_pos ⟨trivial,Os⟩,UE,WF Os]
 unfold QaH
 rw [e,h]
 rfl
end
def nz:DV->DV
 | .lit (.slice none 0 0)=>.sl []
 | d=>d
theorem prep_nz{w:World}{no:Nat->Prop}{v:Value}{d:DV}(h:PRep w no v d):PRep w no v (nz d):=by
 unfold nz
 split
 ·cases h
  ~.nil _ _ (WT _)
 ·~h
theorem holds_nil{m:Mem}{s z:Nat}{f:Bool}{els:List (List DV)}(hs:Holds m s ⟨z,true,f,els⟩):Holds m s ⟨z,true,f,els.map (·.map nz)⟩:=by
 ð⟨e,h1,h2,h3,h4⟩:=hs
 &⟨e,h1,h2,h3,?_⟩
 cases hb:e.blk with
 | none =>
  rw [hb] at h4
  ~⟨by have:=h4.1;dsimp only at this ⊢;rw [this];rfl,h4.2⟩
 | some p =>
  ð⟨g,cap⟩:=p
  rw [hb] at h4
  ð⟨r,_⟩:=h4
  have key:∀ (i:Nat) (x:List DV),(els.map (·.map nz))[i]?=some x->∃ y,els[i]?=some y/\x=y.map nz:=λi x hx=>by
   rw [Wh] at hx
   cases hy:els[i]? with
   | none=>rw [hy] at hx;cases hx
   | some y=>rw [hy] at hx;injection hx with hx;~⟨y,rfl,hx.symm⟩
  have R:Row m ⟨z,true,f,els.map (·.map nz)⟩ g cap:=by
   &QcW r rfl rfl Os (λi x hx=>?_) λi x j d u hx hd hu=>?_
   ·ð⟨y,hy,rfl⟩:=key i x hx
    rw [Wb]
    ~r.sz i y hy
   ·ð⟨y,hy,rfl⟩:=key i x hx
    rw [Wh] at hd
    cases hj:y[j]? with
    | none=>rw [hj] at hd;cases hd
    | some d0 =>
     rw [hj] at hd
     injection hd with hd
     subst hd
     ð⟨u0,w1,w2⟩:=Qaj r hy hj
     dsimp only at hu w1
     rw [hu] at w1
     injection w1 with w1
     subst w1
     ~⟨w2.1,prep_nz w2.2⟩
  ~⟨R,R.deep rfl _⟩
theorem Qv.post{P:Program}{o:Oper}{env:Env}{sto:Sto}{nxt:Nat}{d:DV}{us us':List (Nat×Option Ob)}{rs:List Nat}{n:Nat}(h:Qv P o env sto nxt ⟨d,us,rs,n⟩)(hm:us'.map (·.1)=us.map (·.1))(hu:∀ m,(∀ p∈us,Upd m p)->∀ p∈us',Upd m p):Qv P o env sto nxt ⟨d,us',rs,n⟩ :=
 λF m a hI hE hH hF K Q hK=>h F m a hI hE hH hF K Q λv m' h1 h2 h3 h4=>hK v m' h1 (by dsimp only;rw [hm];~h2) h3 (hu m' h4)
theorem m_litQ{P:Program}{o:Oper}{env:Env}{sto:Sto}{nxt:Nat}{α:Type}{c:α->List DV}(xs:List α){t e len:Nat}{parts:Array (Nat×Operand)}{l:List (Nat×Operand)}{tt td:TyD}{cells cells':List DV}{r us:List Nat}(ht:QF P t tt)(he:QF P e td)(ho:o.op = .buildSlice t len parts)(hp:parts=l.toArray)(hk:tt.k = .slice e)
  (hz:td.zero.length=td.size)(h0:0<td.size)(h1:0<len)(hm:len*td.size<=16777216)
  (h:Qds sto (λi=>some (i*td.size,td.size)) (Qdk td len) (l.map λp=>(p.1,opd env p.2))=some (cells,r))(hpu:QaH sto cells=some (cells',us))(hx:(Qbd len td.size cells').map (·.map nz)=xs.map c)(hl:len=xs.length) :
  Qv P o env sto nxt ⟨.own nxt 0 xs.length,(nxt,some ⟨td.size,true,false,xs.map c⟩) :: Qdr sto us,r++us,1⟩:=by
 have k:=r_lit (P:=P) (nxt:=nxt) ho hp ht hk he hz h0 h1 hm h hpu
 rw [<- hl,<- hx]
 &k.post rfl λm hu p hq=>?_
 rcases Wt.1 hq with rfl | hq
 ·~holds_nil (hu _ (WA ..))
 ·~hu p (Wm _ hq)
section
variable{P:Program}{o:Oper}{env:Env}{sto:Sto}{nxt:Nat}
theorem m_litP{α:Type}{c:α->List DV}(xs:List α){t e len:Nat}{parts:Array (Nat×Operand)}{l:List (Nat×Operand)}{tt td:TyD}{cells cells':List DV}{r us:List Nat}(ht:QF P t tt)(he:QF P e td)(ho:o.op = .buildSlice t len parts)(hp:parts=l.toArray)(hk:tt.k = .slice e)
  (hz:td.zero.length=td.size)(h0:0<td.size)(h1:0<len)(hm:len*td.size<=16777216)
  (h:Qds sto (λi=>some (i*td.size,td.size)) (Qdk td len) (l.map λp=>(p.1,opd env p.2))=some (cells,r))(hpu:QaH sto cells=some (cells',us))(hx:Qbd len td.size cells'=xs.map c)(hl:len=xs.length) :
  Qv P o env sto nxt ⟨.own nxt 0 xs.length,(nxt,some ⟨td.size,true,false,xs.map c⟩) :: Qdr sto us,r++us,1⟩:=Ql xs ht he ho hp hk hz h0 h1 hm h hpu hx hl
theorem bnd_ex{lo:Option Operand}{a d:Int}{n:Nat}(hd:d=(n:Int))(h0:0<=a)(hl:(lo=none/\a=d)\/∃ y k,lo=some y/\opd env y = .lit (.int k a)):∃ l,Bnd env lo l/\l.getD n=a.toNat:=by
 have e1:=Vj h0
 rcases hl with ⟨rfl,rfl⟩ | ⟨y,k,rfl,hy⟩
 ·~⟨none,.none,by simp [hd]⟩
 ·~⟨some a.toNat,.some (k:=k) (by rw [e1];~hy),rfl⟩
theorem QeV{α:Type}{c:α->List DV}{xs:List α}{a b:Int}{t e s len:Nat}{f:Bool}{x:Operand}{lo hi:Option Operand}{tt td:TyD}(h:0<=a/\a<=b/\b<=xs.length/\(a=0\/a<b))(ht:QF P t tt)(he:QF P e td)
  (hl:(lo=none/\a=0)\/∃ y k,lo=some y/\opd env y = .lit (.int k a))(hh:(hi=none/\b=xs.length)\/∃ y k,hi=some y/\opd env y = .lit (.int k b))
  (ho:o.op = .slice t x lo hi none)(hk:tt.k = .slice e)(hx:opd env x = .own s 0 len)(hs:sto.get s=some ⟨td.size,true,f,xs.map c⟩)(hlen:xs.length=len) :
  Qv P o env sto nxt ⟨.own s a.toNat (b.toNat-a.toNat),[],[s],0⟩:=by
 ð⟨h1,h2,h3,h4⟩:=h
 subst hlen
 ð⟨l,b1,l1⟩:=bnd_ex (n:=0) rfl h1 hl
 ð⟨u,b2,u1⟩:=bnd_ex (n:=xs.length) rfl (show 0<=b by omega) hh
 have:=r_slO (P:=P) (sto:=sto) (nxt:=nxt) ho ht hk he hx hs b1 b2 rfl (by rw [l1,u1];omega) (by rw [u1];omega) (by rw [l1,u1];omega)
 rw [l1,u1,WS] at this
 ~this
theorem r_slN{t e:Nat}{x:Operand}{lo hi:Option Operand}{tt td:TyD}{s off len:Nat}{ob:Ob}(ho:o.op = .slice t x lo hi none)(ht:QF P t tt)(hk:tt.k = .slice e)(he:QF P e td)(hx:opd env x = .own s off len)(hs:sto.get s=some ob)(hl:Bnd env lo (some len))(hh:Bnd env hi none)
  (hz:ob.esz=td.size):Qv P o env sto nxt ⟨.sl [],[],[s],0⟩:=.ran λF m a hI hE hHo _=>by
 have hX:=hE x (by simp [ho,Op.operands])
 rw [hx] at hX
 have hL:=Qey (m:=m) (a:=a) hl λx hx=>hE x (by simp [ho,Op.operands,hx])
 have hH:=Qey (m:=m) (a:=a) hh λx hx=>hE x (by simp [ho,Op.operands,hx])
 ð⟨e',k1,k2,k3,k6⟩:=X5 hX (hHo s Os ob hs)
 rcases k6 with ⟨g,cap,k6,q0,k7,k8⟩ | ⟨k6,q0,rfl,rfl,k7,k8⟩
 ·have hrun:=Qcs ht hk he (ad:=some ⟨g,off*ob.esz,none⟩) (Xy (P:=P) (len:=len) (cap:=cap-off) hL hH (Wl _) (Wl _) Oo true m.w)
  have hmax:=k8.max
  simp only [WE,YI] at hrun
  &Ran.val hI (v:=.slice (if cap-off=len then some ⟨g,off*ob.esz,none⟩ else some ⟨g,off*ob.esz+len*td.size,none⟩) (len-len) (cap-off-len)) (by simp [execOp,ho,q0,hrun,add_lit]) ?_
  rw [Ui]
  ~.pure (.nil _ _ (by unfold maxLen at *;omega))
 ·have hrun:=Qcs ht hk he (ad:=none) (Xy (P:=P) (len:=0) (cap:=0) hL hH (Wl _) (Wl _) (Wl _) true m.w)
  &Ran.val hI (v:=.slice none 0 0) (by simp [execOp,ho,q0,hrun]) ?_
  ~.pure (.nil _ _ (by unfold maxLen;omega))
theorem m_slN{α:Type}{c:α->List DV}{xs:List α}{a:Int}{t e s len:Nat}{f:Bool}{x:Operand}{lo:Option Operand}{tt td:TyD}(h:a=xs.length)(ht:QF P t tt)(he:QF P e td)
  (hl:∃ y k,lo=some y/\opd env y = .lit (.int k a))
  (ho:o.op = .slice t x lo none none)(hk:tt.k = .slice e)(hx:opd env x = .own s 0 len)(hs:sto.get s=some ⟨td.size,true,f,xs.map c⟩)(hlen:xs.length=len) :
  Qv P o env sto nxt ⟨.sl (((xs.take (xs.length:Int).toNat).drop a.toNat).map c),[],[s],0⟩:=by
 subst hlen
 subst h
 ð⟨y,k,rfl,hy⟩:=hl
 have:=r_slN (P:=P) (nxt:=nxt) ho ht hk he hx hs (.some hy) .none rfl
 rw [VF (by rw [Wi];omega)]
 ~this
theorem m_apW{α:Type}{c:α->List DV}(xs:List α){a b:Int}{t e s0:Nat}{f:Bool}{s x:Operand}{tt td:TyD}{B:Int}(h:0<=a/\a<=b/\b<=xs.length)(hb:(((xs.take b.toNat).drop a.toNat).length:Int)*B<=140737488355328/\(((xs.take b.toNat).drop a.toNat).length:Int)<=9223372036854775807)(ht:QF P t tt)(he:QF P e td)
  (ho:o.op = .call ⟨.builtin .append,#[s,x],#[t,t]⟩)(hk:tt.k = .slice e)(hs:opd env s = .lit (.slice none 0 0))(hx:opd env x = .own s0 a.toNat (b.toNat-a.toNat))(hg:sto.get s0=some ⟨td.size,true,f,xs.map c⟩)
  (hz:td.zero.length=td.size)(h0:0<td.size)(hB:(td.bytes:Int)=B)(hc:∀ a,(c a).length=td.size) :
  Qv P o env sto nxt ⟨.own nxt 0 ((xs.take b.toNat).drop a.toNat).length,[(nxt,some ⟨td.size,true,false,((xs.take b.toNat).drop a.toNat).map c⟩)],[s0],1⟩:=by
 subst hB
 ð⟨h1,h2,h3⟩:=h
 have e:elsF sto (opd env x)=some (((xs.take b.toNat).drop a.toNat).map c,[s0]):=by
  rw [hx]
  unfold elsF
  simp only [hg]
  rw [if_pos ⟨trivial,by rw [Wb];omega⟩,List.drop_take,Yp,Waa]
 have:=r_appN (P:=P) (nxt:=nxt) ho ht hk he hs e hz h0 (Qg hc _) (by rw [Wb];~nat_le (a:=_*_) hb.1) (by rw [Wb];unfold maxLen;omega)
 rw [Wb] at this
 ~this
theorem m_apV{α:Type}{c:α->List DV}(xs ys:List α){b:Int}{t e k:Nat}{s x:Operand}{tt td:TyD}{rs:List Nat}{B:Int}(h:0<=b/\b<=xs.length)(hb:(((xs.take b.toNat).length:Int)+ys.length)*B<=140737488355328/\((xs.take b.toNat).length:Int)+ys.length<=9223372036854775807)(ht:QF P t tt)(he:QF P e td)
  (ho:o.op = .call ⟨.builtin .append,#[s,x],#[t,t]⟩)(hs:opd env s = .own k 0 (b.toNat-0))(hx:ElE env sto td.size x (ys.map c) rs)(hk:tt.k = .slice e)
  (hg:sto.get k=some ⟨td.size,true,false,xs.map c⟩)(hz:td.zero.length=td.size)(h0:0<td.size)(hB:(td.bytes:Int)=B) :
  Qv P o env sto nxt ⟨.own nxt 0 (xs.take b.toNat++ys).length,[(k,none),(nxt,some ⟨td.size,true,false,(xs.take b.toNat++ys).map c⟩)],k :: rs,1⟩:=by
 subst hB
 ð⟨h1,h2⟩:=hx.ok
 rw [Uw] at hs
 have hl:(xs.take b.toNat).length=b.toNat:=by rw [Wi];omega
 rw [hl] at hb
 have:=r_app (P:=P) (nxt:=nxt) ho ht hk he hs hg h1 rfl rfl (by rw [Wb];omega) rfl hz h0 h2 (by rw [Wb];~nat_le (a:=(_+_)*_) hb.1) (by rw [Wb];unfold maxLen;omega)
 dsimp only at this
 rw [Wb] at this
 rw [WH,Yp,We,hl]
 ~this
end
theorem nt{x:Bool}(h:x=true):(!x)=false:=by rw [h];rfl
class MixP(P:Program):Prop where
 ok:P.follows .mixedOrders=true
class TyI(P:Program)(t:Nat)(d:outParam TyD):Prop where
 ok:QF P t d
def ndp:DV->Bool
 | .dp _ _=>false
 | _=>true
structure Sm{α:Type}(x:Option α)(v:α):Prop where
 h:x=some v
structure At{α:Type}(l:List α)(i:Int)(v:α):Prop where
 h:at_ l i=some v
section plain
variable{α β ρ σ:Type}
theorem bd{x:Option α}{K:α->Option β}{r:β}(H:Sm (x.bind K) r):∃ v,Sm x v/\Sm (K v) r:=by
 ð⟨v,h1,h2⟩:=bnd H.h
 ~⟨v,⟨h1⟩,⟨h2⟩⟩
theorem ba{l:List α}{i:Int}{K:α->Option β}{r:β}(H:Sm ((at_ l i).bind K) r):∃ v,At l i v/\Sm (K v) r:=by
 ð⟨v,h1,h2⟩:=bnd H.h
 ~⟨v,⟨h1⟩,⟨h2⟩⟩
theorem cq{p:Prop}[Decidable p]{A:Option β}{r:β}(H:Sm (if p then A else none) r):p/\Sm A r:=by
 ð⟨h1,h2⟩:=ck H.h
 ~⟨h1,⟨h2⟩⟩
theorem fs{p:Prop}[Decidable p]{A B:Option β}{r:β}(H:Sm (if p then A else B) r):(p/\Sm A r)\/(¬ p/\Sm B r):=by
 by_cases h:p
 ·~.inl ⟨h,⟨iT h H.h⟩⟩
 ·~.inr ⟨h,⟨iF h H.h⟩⟩
theorem se{a r:β}(H:Sm (some a) r):a=r:=som H.h
end plain
section
variable{P:Program}{env:Env}{sto:Sto}{nxt:Nat}{o:Oper}{ops:Array Oper}{l:List Oper}{K:QfE->DSt->Prop}
theorem m_quoA{t:Nat}{x y:Operand}{t':Nat}{k:IntKind}{p q:Int}(ho:o.op = .binOp .quo t x y t':=by rfl)(hx:opd env x = .lit (.int k p):=by rfl)(hy:opd env y = .lit (.int k q):=by rfl)(h:¬ q=0:=by first | assumption | decide):Qv P o env sto nxt ⟨.lit (.int k (k.wrap (p.tdiv q))),[],[],0⟩:=m_quo h ho hx hy
theorem m_remA{t:Nat}{x y:Operand}{t':Nat}{k:IntKind}{p q:Int}(ho:o.op = .binOp .rem t x y t':=by rfl)(hx:opd env x = .lit (.int k p):=by rfl)(hy:opd env y = .lit (.int k q):=by rfl)(h:¬ q=0:=by first | assumption | decide):Qv P o env sto nxt ⟨.lit (.int k (p.tmod q)),[],[],0⟩:=m_rem h ho hx hy
theorem m_shlA{t:Nat}{x y:Operand}{t':Nat}{k j:IntKind}{p q:Int}(ho:o.op = .binOp .shl t x y t':=by rfl)(hx:opd env x = .lit (.int k p):=by rfl)(hy:opd env y = .lit (.int j q):=by rfl)(h:0<=q:=by first | assumption | decide):Qv P o env sto nxt ⟨.lit (.int k (Qa9 k p q)),[],[],0⟩:=m_shlE h ho hx hy
theorem m_shrA{t:Nat}{x y:Operand}{t':Nat}{k j:IntKind}{p q:Int}(ho:o.op = .binOp .shr t x y t':=by rfl)(hx:opd env x = .lit (.int k p):=by rfl)(hy:opd env y = .lit (.int j q):=by rfl)(h:0<=q:=by first | assumption | decide):Qv P o env sto nxt ⟨.lit (.int k (QbO k p q)),[],[],0⟩:=m_shrE h ho hx hy
theorem m_iaSA{α:Type}{c:α->List DV}{xs:List α}{v:α}{n:Int}{t e:Nat}{x ix:Operand}{tt td:TyD}{k:IntKind}(ho:o.op = .indexAddr t x ix:=by rfl)(ht:QF P t tt:=by ~TyI.ok)(hk:tt.k = .slice e:=by rfl)(he:QF P e td:=by ~TyI.ok)
  (hx:opd env x = .sl (xs.map c):=by rfl)(hi:opd env ix = .lit (.int k n):=by rfl)(h:At xs n v:=by assumption)(hl:(c v).length=td.size:=by rfl):Qv P o env sto nxt ⟨.pp (c v),[],[],0⟩:=m_iaS h.h ht he ho hk hx hi hl
theorem m_iaOA{α:Type}{c:α->List DV}{xs:List α}{v:α}{n:Int}{s len z:Nat}{f1 f2:Bool}{t e:Nat}{x ix:Operand}{tt td:TyD}{k:IntKind}(ho:o.op = .indexAddr t x ix:=by rfl)(hx:opd env x = .own s 0 len:=by rfl)(ht:QF P t tt:=by ~TyI.ok)(hk:tt.k = .slice e:=by rfl)(he:QF P e td:=by ~TyI.ok)
  (hi:opd env ix = .lit (.int k n):=by rfl)(hs:sto.get s=some ⟨z,f1,f2,xs.map c⟩:=by rfl)(hl:xs.length=len:=by first | rfl | omega | (simp;done) | (simp;omega))(h:At xs n v:=by assumption)(hz:z=td.size:=by rfl):Qv P o env sto nxt ⟨.ptr s n.toNat 0,[],[s],0⟩:=m_iaO h.h ht he ho hx hl hk hi hs hz
theorem m_ldOA{α:Type}{c:α->List DV}{xs:List α}{v:α}{n:Int}{t:Nat}{p:Operand}{td:TyD}{s j z:Nat}{arr frz:Bool}{d:DV}(ho:o.op = .load t p:=by rfl)(ht:QF P t td:=by ~TyI.ok)(hp:opd env p = .ptr s n.toNat j:=by rfl)(hs:sto.get s=some ⟨z,arr,frz,xs.map c⟩:=by rfl)(h:At xs n v:=by assumption)
  (hd:ldD td ((c v).drop j)=some d:=by rfl)(hn:ndp d=true:=by rfl):Qv P o env sto nxt ⟨d,[],[s],0⟩:=m_ldO h.h ht ho hp hs hd
theorem m_faA{t f:Nat}{p:Operand}{td:TyD}{fs:List (Nat×Nat)}{off size:Nat}{d:DV}{rs:List Nat}(ho:o.op = .fieldAddr t p f:=by rfl)(ht:QF P t td:=by ~TyI.ok)(hk:td.k = .struct fs:=by rfl)(hf:fs[f]?=some (off,size):=by rfl)(h0:size≠0:=by decide)
  (hc:FaD env sto off p d rs:=by first | ~.ptr rfl rfl | ~.pp rfl):Qv P o env sto nxt ⟨d,[],rs,0⟩:=m_fa ht ho hk hf h0 hc
theorem Qfp{t:Nat}{td:TyD}(ho:o.op = .alloc t:=by rfl)(ht:QF P t td:=by ~TyI.ok)(hz:td.zero.length=td.size:=by rfl)(h0:0<td.size:=by decide):Qv P o env sto nxt ⟨.ptr nxt 0 0,[(nxt,some ⟨td.size,false,false,[td.zero]⟩)],[],1⟩:=r_alloc ho ht hz h0
theorem m_boxA{t:Nat}{x:Operand}{td:TyD}{cs:List DV}{r:List Nat}(ho:o.op = .box t x:=by rfl)(ht:QF P t td:=by ~TyI.ok)(hc:Qbe td (opd env x)=some cs:=by rfl)(hb:boxF sto cs=some r:=by rfl)(h0:0<td.size:=by decide) :
  Qv P o env sto nxt ⟨.ptr nxt 0 0,[(nxt,some ⟨td.size,false,false,[cs]⟩)],r,1⟩:=r_box ho ht hc hb h0
theorem Qfo{t:Nat}{parts:Array (Nat×Operand)}{l:List (Nat×Operand)}{td:TyD}{fs:List (Nat×Nat)}{cells:List DV}{r:List Nat}(ho:o.op = .build t parts:=by rfl)(ht:QF P t td:=by ~TyI.ok)(hp:parts=l.toArray:=by rfl)(hk:td.k = .struct fs:=by rfl)
  (h:Qds sto (fs[·]?) td.zero (l.map λp=>(p.1,opd env p.2))=some (cells,r):=by rfl):Qv P o env sto nxt ⟨.agg cells,[],r,0⟩:=r_build ho hp ht hk h
theorem m_cnvA{src dst:Nat}{x:Operand}{td td':TyD}{k q:IntKind}{n:Int}(ho:o.op = .convert src dst x:=by rfl)(hs:QF P src td:=by ~TyI.ok)(hd:QF P dst td':=by ~TyI.ok)(hk:td'.k = .int k:=by rfl)(hx:opd env x = .lit (.int q n):=by rfl):Qv P o env sto nxt ⟨.lit (.int k (k.wrap n)),[],[],0⟩:=r_conv ho hs hd hk hx
theorem m_lenA{x:Operand}{t:Nat}{td:TyD}{e n:Nat}{rs:List Nat}(ho:o.op = .call ⟨.builtin .len,#[x],#[t]⟩:=by rfl)(ht:QF P t td:=by ~TyI.ok)(hk:td.k = .slice e:=by rfl)
  (hx:LenD env sto x n rs:=by first | ~.map rfl | ~.own rfl rfl | ~.nil rfl | ~.sl rfl):Qv P o env sto nxt ⟨.lit (.int .i64 n),[],rs,0⟩:=m_len ht ho hk hx
theorem m_eqBA{t:Nat}{x y:Operand}{t':Nat}{p q:Bool}{td:TyD}(ho:o.op = .binOp .eql t x y t':=by rfl)(hx:opd env x = .lit (.bool p):=by rfl)(hy:opd env y = .lit (.bool q):=by rfl)(ht:QF P t td:=by ~TyI.ok)(hk:td.k = .bool:=by rfl):Qv P o env sto nxt ⟨.lit (.bool (p == q)),[],[],0⟩:=r_eqB ho ht hk hx hy
theorem m_neBA{t:Nat}{x y:Operand}{t':Nat}{p q:Bool}{td:TyD}(ho:o.op = .binOp .neq t x y t':=by rfl)(hx:opd env x = .lit (.bool p):=by rfl)(hy:opd env y = .lit (.bool q):=by rfl)(ht:QF P t td:=by ~TyI.ok)(hk:td.k = .bool:=by rfl):Qv P o env sto nxt ⟨.lit (.bool (p != q)),[],[],0⟩:=r_neB ho ht hk hx hy
theorem m_loadA{t:Nat}{p:Operand}{td:TyD}{d:DV}{cs:List DV}{rs:List Nat}(ho:o.op = .load t p:=by rfl)(ht:QF P t td:=by ~TyI.ok)(hc:Cells env sto p cs rs:=by first | ~.ptr rfl rfl rfl | ~.pp rfl)(hd:ldD td cs=some d:=by rfl)(hn:ndp d=true:=by rfl):Qv P o env sto nxt ⟨d,[],rs,0⟩:=m_load ht ho hc hd
theorem Qfn{t:Nat}{p x:Operand}{td:TyD}{us:List (Nat×Option Ob)}{rs:List Nat}(ho:o.op = .store t p x:=by rfl)(ht:QF P t td:=by ~TyI.ok)
  (hc:StD env sto td p x us rs:=by ~.box rfl rfl rfl rfl rfl rfl rfl (by first | decide | ~V0 rfl)):Qv P o env sto nxt ⟨.any,us,rs,0⟩:=m_store ht ho hc
theorem m_pickA{c x y:Operand}{t u:Bool}(ho:o.op = .pick c x y:=by rfl)(hc:opd env c = .lit (.bool t):=by rfl)(e:t=u:=by first | ~decide_eq_true Oa | ~decide_eq_false Oa | assumption | ~eq_false_of_ne_true Oa | ~congrArg not (decide_eq_true Oa) | ~congrArg not (decide_eq_false Oa) | ~nt Oa | ~congrArg not (eq_false_of_ne_true Oa) | rfl):Qv P o env sto nxt ⟨cond u (opd env x) (opd env y),[],[],0⟩:=m_pickE e ho hc
theorem gF{g t:Nat}{b c:Bool}(h1:o.guard=some (g,b):=by rfl)(h2:(ops[g]?).bind (·.dst)=some t:=by rfl)(h3:env.get t = .lit (.bool c):=by rfl)(e:c=b:=by first | ~decide_eq_true Oa | ~decide_eq_false Oa | assumption | ~eq_false_of_ne_true Oa | ~congrArg not (decide_eq_true Oa) | ~congrArg not (decide_eq_false Oa) | ~nt Oa | ~congrArg not (eq_false_of_ne_true Oa) | rfl):Grd ops o env:=gY e h1 h2 h3
structure Wr(G:Prop):Prop where
 get:G
theorem goA{d:DV}{us:List (Nat×Option Ob)}{rs:List Nat}{n:Nat}(h:Qv P o env sto nxt ⟨d,us,rs,n⟩)
  (k:QV P ops l ⟨env.put o.dst d,sto.upd us,nxt+n⟩ λouts=>K ((⟨d,us,rs,n⟩,nxt) :: outs))(hg:Grd ops o env:=by first | ~.none rfl | ~gF):QV P ops (o :: l) ⟨env,sto,nxt⟩ K:=go h k hg
theorem noA{g t:Nat}{b c:Bool}(k:QV P ops l ⟨env.put o.dst (.tup []),sto,nxt⟩ λouts=>K ((⟨.tup [],[],[],0⟩,nxt) :: outs))
  (h1:o.guard=some (g,b):=by rfl)(h2:(ops[g]?).bind (·.dst)=some t:=by rfl)(h3:env.get t = .lit (.bool c):=by rfl)(e:c=!b:=by first | ~decide_eq_true Oa | ~decide_eq_false Oa | assumption | ~eq_false_of_ne_true Oa | ~congrArg not (decide_eq_true Oa) | ~congrArg not (decide_eq_false Oa) | ~nt Oa | ~congrArg not (eq_false_of_ne_true Oa) | rfl):QV P ops (o :: l) ⟨env,sto,nxt⟩ K:=noE e k h1 h2 h3
theorem noB{g t:Nat}{b:Bool}(k:QV P ops l ⟨env.put o.dst (.tup []),sto,nxt⟩ λouts=>K ((⟨.tup [],[],[],0⟩,nxt) :: outs))
  (h1:o.guard=some (g,b):=by rfl)(h2:(ops[g]?).bind (·.dst)=some t:=by rfl)(h3:env.get t = .tup []:=by rfl):QV P ops (o :: l) ⟨env,sto,nxt⟩ K:=noU k h1 h2 h3
end
section
variable{P:Program}{nt n0:Nat}{Q:Exit->DSt->Prop}{st:DSt}{id:Nat}{ops:Array Oper}{l:List Oper}{y:Code}{G:Prop}
theorem d_cutS{β ρ:Type}{x y:Code}{X:Option β}{K:β->Option ρ}{r:ρ}(I:β->DSt)(H:Sm (X.bind K) r)
  (hx:∀ z,Sm X z->DWp P nt n0 x (Qcp (λs=>ZM n0 s (I z)) Q) st)(hy:∀ b,Sm (K b) r->DWp P nt n0 y Q (I b)):DWp P nt n0 (.seq x y) Q st:=d_cutF I H.h (λz hz=>hx z ⟨hz⟩) λb hb=>hy b ⟨hb⟩
theorem d_cutT{β ρ:Type}{x y:Code}{X:Option (β ⊕ ρ)}{K:β->Option ρ}{r:ρ}(I:β->DSt)(H:Sm (bndR X K) r)
  (hx:∀ z,(∀ r',z = .inr r'->r'=r)->Sm X z->DWp P nt n0 x (Qcp (λs=>∃ b,z = .inl b/\ZM n0 s (I b)) Q) st)(hy:∀ b,Sm (K b) r->DWp P nt n0 y Q (I b)):DWp P nt n0 (.seq x y) Q st:=d_cutR I H.h (λz hz h=>hx z h ⟨hz⟩) λb hb=>hy b ⟨hb⟩
theorem d_loopS{β σ:Type}{body:Code}{f:σ->Option (LS σ β)}{s0:σ}{z:β}(I:σ->DSt)(H:Sm (Qh f s0) z)(h0:ZM n0 st (I s0))
  (hs:∀ s y,(∀ b,y = .out b->b=z)->Sm (f s) y->DWp P nt n0 body (Qcp (λs'=>∃ x',y = .go x'/\ZM n0 s' (I x')) Q) (I s)):DWp P nt n0 (.loop body) Q st:=d_loopF I H.h h0 λs y hy h=>hs s y h ⟨hy⟩
end
section
variable{P:Program}{o:Oper}{env:Env}{sto:Sto}{nxt:Nat}
theorem At.lt{α:Type}{xs:List α}{n:Int}{v:α}(h:At xs n v):n.toNat<xs.length:=(at_lt h.h).2
theorem At.get{α:Type}{xs:List α}{n:Int}{v:α}(h:At xs n v){c:α->List DV}:(xs.map c)[n.toNat]?=some (c v):=by rw [Wh,(at_get h.h).2];rfl
theorem Qv.us{d:DV}{us us':List (Nat×Option Ob)}{rs:List Nat}{n:Nat}(h:Qv P o env sto nxt ⟨d,us,rs,n⟩)(e:us=us'):Qv P o env sto nxt ⟨d,us',rs,n⟩:=e▸h
theorem Qv.rs{d:DV}{us:List (Nat×Option Ob)}{rs rs':List Nat}{n:Nat}(h:Qv P o env sto nxt ⟨d,us,rs,n⟩)(e:∀ s∈rs,s∈rs'):Qv P o env sto nxt ⟨d,us,rs',n⟩:=λF m a h1 h2 h3 h4=>h F m a h1 h2 (λs hs=>h3 s (e s hs)) h4
theorem renO_deep{α:Type}{cd:α->List DV}{φ:Nat->Nat}{z:Nat}{f:Bool}{xs:List α}(h:∀ a,(cd a).all dpB=true):renO φ ⟨z,false,f,xs.map cd⟩=⟨z,false,f,xs.map cd⟩:=by
 unfold renO
 dsimp only
 rw [if_neg Od]
 congr 1
 rw [W3]
 &WW λa _=>?_
 show renL φ (cd a)=cd a
 rw [Qbb]
 have:=WY.1 (h a)
 conv=>rhs;rw [<- Y6 (cd a)]
 &WW λd hd=>?_
 have:=this d hd
 cases d with
 | lit v=>unfold ren;rfl
 | sl xs=>unfold ren;rfl
 | dp z l=>unfold ren;rfl
 | _=>cases this
theorem m_ldD{α β:Type}{cd:α->List DV}{c:β->List DV}{xs:List α}{ys:List β}{n:Int}{v:α}{t:Nat}{p:Operand}{td:TyD}{s j z zz:Nat}(h:At xs n v)(row:List DV)(ht:QF P t td)(hj:(cd v)[j]?=some (.dp z (ys.map c)))(hr:(cd v).set j (.own nxt 0 ys.length)=row)(ho:o.op = .load t p:=by rfl)(hag:td.agg=false:=by rfl)(hsz:td.size=1:=by rfl)(hp:opd env p = .ptr s n.toNat j:=by rfl)
  (hs:sto.get s=some ⟨zz,false,false,xs.map cd⟩:=by rfl):Qv P o env sto nxt ⟨.own nxt 0 ys.length,[(s,some ⟨zz,false,false,(xs.map cd).set n.toNat row⟩),(nxt,some ⟨z,true,false,ys.map c⟩)],[s],1⟩:=by
 have:=r_ldD (P:=P) (nxt:=nxt) ho ht hag hsz hp hs rfl h.get hj
 rw [Wb] at this
 dsimp only at this
 have e:setC (xs.map cd) n.toNat j (.own nxt 0 ys.length)=(xs.map cd).set n.toNat row:=by
  unfold setC
  rw [VI,h.get,WE,hr]
 rw [e] at this
 ~this
theorem m_ldR{α:Type}{cd:α->List DV}{xs:List α}{n:Int}{v:α}{t:Nat}{p:Operand}{td:TyD}{s j zz:Nat}{row:List DV}{d:DV}(h:At xs n v)(ht:QF P t td)(ho:o.op = .load t p:=by rfl)(hp:opd env p = .ptr s n.toNat j:=by rfl)
  (hs:sto.get s=some ⟨zz,false,false,(xs.map cd).set n.toNat row⟩:=by rfl)(hd:ldD td (row.drop j)=some d:=by rfl):Qv P o env sto nxt ⟨d,[],[s],0⟩ :=
 r_load ho ht hp hs (by show ((xs.map cd).set n.toNat row)[n.toNat]?=_;rw [WD (by rw [Wb];~h.lt)]) hd
theorem m_stR{α:Type}{cd:α->List DV}{xs:List α}{n:Int}{v:α}{t:Nat}{p x:Operand}{td:TyD}{s j zz:Nat}{els:List (List DV)}{row0 cs:List DV}{r:List Nat}(h:At xs n v)(row:List DV)(he:(els=xs.map cd/\row0=cd v)\/els=(xs.map cd).set n.toNat row0)(ht:QF P t td)(ho:o.op = .store t p x:=by rfl)(hp:opd env p = .ptr s n.toNat j:=by rfl)
  (hs:sto.get s=some ⟨zz,false,false,els⟩:=by rfl)(hc:Qbe td (opd env x)=some cs:=by rfl)(hb:boxF sto cs=some r:=by rfl)(hr:setCells row0 j cs=row:=by rfl)(hj:j+cs.length<=row0.length:=by ~V0 rfl):Qv P o env sto nxt ⟨.any,[(s,some ⟨zz,false,false,(xs.map cd).set n.toNat row⟩)],s :: r,0⟩:=by
 have hy:els[n.toNat]?=some row0:=by
  rcases he with ⟨rfl,rfl⟩ | rfl
  ·~h.get
  ·rw [WD (by rw [Wb];~h.lt)]
 have:=QfQ (P:=P) (nxt:=nxt) ho ht hp hs rfl rfl hc hb hy hj
 dsimp only at this
 have e:els.set n.toNat (setCells row0 j cs)=(xs.map cd).set n.toNat row:=by
  rw [hr]
  rcases he with ⟨rfl,_⟩ | rfl
  ·rfl
  ·rw [List.set_set]
 rw [e] at this
 ~this
theorem m_litD{t e len:Nat}{parts:Array (Nat×Operand)}{l:List (Nat×Operand)}{tt td:TyD}{cells:List DV}{r r2:List Nat}(rows:List (List DV))(ht:QF P t tt)(he:QF P e td)(ho:o.op = .buildSlice t len parts:=by rfl)(hp:parts=l.toArray:=by rfl)(hk:tt.k = .slice e:=by rfl)
  (hz:td.zero.length=td.size:=by rfl)(h0:0<td.size:=by decide)(h1:0<len:=by decide)(hm:len*td.size<=16777216:=by decide)
  (h:Qds sto (λi=>some (i*td.size,td.size)) (Qdk td len) (l.map λp=>(p.1,opd env p.2))=some (cells,r):=by rfl)(hb:boxF sto cells=some r2:=by rfl)(hx:Qbd len td.size cells=rows:=by rfl)(hl:len=rows.length:=by rfl) :
  Qv P o env sto nxt ⟨.own nxt 0 rows.length,[(nxt,some ⟨td.size,false,false,rows⟩)],r++r2,1⟩:=by
 have:=r_litR (P:=P) (nxt:=nxt) ho hp ht hk he hz h0 h1 hm h hb
 rw [hx,hl] at this
 ~this
theorem m_del{α:Type}{c:α->List DV}(xs:List α){a b:Int}{t e k la zz:Nat}{s x:Operand}{tt td:TyD}{rs:List Nat}(h:0<=a/\a<=b/\b<=xs.length)(ht:QF P t tt)(he:QF P e td)(ho:o.op = .call ⟨.builtin .append,#[s,x],#[t,t]⟩)(hs:opd env s = .own k 0 la)(hla:la=a.toNat)(hg:sto.get k=some ⟨zz,true,false,xs.map c⟩)
  (hx:elsF sto (opd env x)=some (((xs.take (xs.length:Int).toNat).drop b.toNat).map c,rs))(hb:(xs.length:Int)*td.bytes<=140737488355328/\(xs.length:Int)<=9223372036854775807)(hk:tt.k = .slice e:=by rfl)(hz:td.zero.length=td.size:=by rfl)(h0:0<td.size:=by decide)(hez:zz=td.size:=by rfl)(hc:∀ v,(c v).length=td.size:=by ~λ_=>rfl) :
  Qv P o env sto nxt ⟨.own nxt 0 (xs.take a.toNat++(xs.take (xs.length:Int).toNat).drop b.toNat).length,[(k,none),(nxt,some ⟨td.size,true,false,(xs.take a.toNat++(xs.take (xs.length:Int).toNat).drop b.toNat).map c⟩)],k :: rs,1⟩:=by
 subst hla
 have hd:((xs.take (xs.length:Int).toNat).drop b.toNat).length=xs.length-b.toNat:=by rw [Ww,Wi];omega
 have:=r_app (P:=P) (nxt:=nxt) ho ht hk he hs hg hx rfl rfl (by rw [Wb];omega) hez hz h0 (λy hy=>by ð⟨v,_,rfl⟩:=Wk.1 hy;~hc v) (by
  rw [Wb,hd]
  have h1:a.toNat+(xs.length-b.toNat)<=xs.length:=by omega
  ~Ug (WB _ h1) (nat_le (a:=_*_) hb.1)) (by rw [Wb,hd];unfold maxLen;omega)
 dsimp only at this
 rw [<- Yp,<- WH,Wb,hd,show a.toNat+(xs.length-b.toNat)=(xs.take a.toNat++(xs.take (xs.length:Int).toNat).drop b.toNat).length by rw [We,Wi,hd];omega] at this
 ~this
theorem m_iaX{α:Type}{xs:List α}{v:α}{n:Int}{N t e s:Nat}{x ix:Operand}{tt td:TyD}{k:IntKind}{ob:Ob}(h:At xs n v)(hN:n<(N:Int))(ht:QF P t tt)(he:QF P e td)(ho:o.op = .indexAddr t x ix:=by rfl)(hk:tt.k = .array N e:=by rfl)(hx:opd env x = .ptr s 0 0:=by rfl)(hi:opd env ix = .lit (.int k n):=by rfl)(hs:sto.get s=some ob:=by rfl)(hz:td.size=1:=by rfl):Qv P o env sto nxt ⟨.ptr s 0 n.toNat,[],[s],0⟩:=by
 have h0:=(at_lt h.h).1
 have:=r_iaA (P:=P) (nxt:=nxt) ho ht hk he hx (i:=n.toNat) (by rw [Vj h0];~hi) hs Oo
 rw [hz,WS,Nat.mul_one] at this
 ~this
theorem cellX{α:Type}{c1:α->DV}{xs:List α}{n:Int}{v:α}(h:At xs n v):∃ l,(xs.map c1).drop n.toNat=c1 v :: l:=by
 &⟨(xs.map c1).drop (n.toNat+1),?_⟩
 have h1:=(at_get h.h).2
 ð⟨h2,h3⟩:=Wq.1 h1
 rw [Vk (by rw [Wb];~h2),Va,h3]
theorem m_ldX{α:Type}{c1:α->DV}{xs:List α}{v:α}{n:Int}{t s z:Nat}{p:Operand}{td:TyD}{f:Bool}(h:At xs n v)(ht:QF P t td)(hs:sto.get s=some ⟨z,false,f,[xs.map c1]⟩)(ho:o.op = .load t p:=by rfl)(hp:opd env p = .ptr s 0 n.toNat:=by rfl)(hg:td.agg=false:=by rfl)(hsz:td.size=1:=by rfl)(hl:∀ l,ldD td (c1 v :: l)=some (c1 v):=by ~λ_=>rfl):Qv P o env sto nxt ⟨c1 v,[],[s],0⟩:=by
 ð⟨l,hl'⟩:=cellX (c1:=c1) h
 ~r_load ho ht hp hs rfl (by rw [hl'];~hl l)
theorem m_stX{α:Type}{c1:α->DV}{xs:List α}{v:α}{n:Int}{t s z:Nat}{p x:Operand}{td:TyD}{r:List Nat}(h:At xs n v)(a:α)(ht:QF P t td)(hs:sto.get s=some ⟨z,false,false,[xs.map c1]⟩)(ho:o.op = .store t p x:=by rfl)(hp:opd env p = .ptr s 0 n.toNat:=by rfl)(hc:Qbe td (opd env x)=some [c1 a]:=by rfl)(hb:boxF sto [c1 a]=some r:=by rfl):Qv P o env sto nxt ⟨.any,[(s,some ⟨z,false,false,[(xs.set n.toNat a).map c1]⟩)],s :: r,0⟩:=by
 have:=QfQ (P:=P) (nxt:=nxt) ho ht hp hs rfl rfl hc hb (y:=xs.map c1) rfl (by rw [Wb];~h.lt)
 rw [show (xs.set n.toNat a).map c1=setCells (xs.map c1) n.toNat [c1 a] by rw [YM];rfl]
 ~this
theorem delV{α:Type}{c:α->List DV}{xs:List α}{b:Int}{k lb lc zz:Nat}{x:Operand}{f:Bool}(hx:opd env x = .own k lb lc)(hlb:lb=b.toNat)(hlc:lc=(xs.length:Int).toNat-b.toNat)(hb:0<=b/\b<=xs.length)(hg:sto.get k=some ⟨zz,true,f,xs.map c⟩):elsF sto (opd env x)=some (((xs.take (xs.length:Int).toNat).drop b.toNat).map c,[k]):=by
 subst hlb hlc
 rw [hx]
 show (match sto.get k with | some ob=>if ob.arr=true/\b.toNat+((xs.length:Int).toNat-b.toNat)<=ob.els.length then some ((ob.els.drop b.toNat).take ((xs.length:Int).toNat-b.toNat),[k]) else none | none=>none)=_
 rw [hg]
 dsimp only
 rw [if_pos ⟨rfl,by rw [Wb];omega⟩,<- Waa,WF (by rw [Wb,Ww];omega),WF Oo]
theorem m_apD{α:Type}{cd:α->List DV}(xs:List α)(v:α)(row:List DV){t e k k2 len zz z2:Nat}{s x:Operand}{tt td:TyD}{B:Int}(hb:((xs.length:Int)+1)*B<=140737488355328/\(xs.length:Int)+1<=9223372036854775807)(ht:QF P t tt)(he:QF P e td)(ho:o.op = .call ⟨.builtin .append,#[s,x],#[t,t]⟩)(hs:opd env s = .own k 0 len)(hl:len=xs.length)(hg:sto.get k=some ⟨zz,false,false,xs.map cd⟩)(hx:opd env x = .own k2 0 1)(hg2:sto.get k2=some ⟨z2,false,false,[row]⟩)
  (hk:tt.k = .slice e:=by rfl)(hz:td.zero.length=td.size:=by rfl)(h0:0<td.size:=by decide)(hez:zz=td.size:=by rfl)(hez2:z2=td.size:=by rfl)(hnd:noDpB [row]=true:=by rfl)(hB:(td.bytes:Int)=B:=by rfl) :
  Qv P o env sto nxt ⟨.own nxt 0 (xs++[v]).length,[(k,none),(nxt,some ⟨td.size,false,false,xs.map cd++[row]⟩)],[k,k2],1⟩:=by
 subst hl
 rw [show (xs++[v]).length=xs.length+1 by simp]
 have:=r_appR (P:=P) (nxt:=nxt) ho ht hk he hs hg hx hg2 rfl rfl (by show xs.length<=(xs.map cd).length;rw [Wb];~Wl _) (Wl 1) hez hez2 hnd hz h0 (by subst hB;~nat_le (a:=(_+1)*_) hb.1) (by have:=hb.2;unfold maxLen;omega)
 rw [show (⟨zz,false,false,xs.map cd⟩:Ob).els.take xs.length=xs.map cd from WF Os,show (⟨z2,false,false,[row]⟩:Ob).els.take 1=[row] from rfl] at this
 ~this
end
section
variable{n0:Nat}{env:Env}{sto:Sto}{nxt:Nat}{α β:Type}{cd:α->List DV}{c:β->List DV}{xs:List α}{ys:List β}{n:Int}{v:α}
theorem attR{s t z zz j m:Nat}{row:List DV}(h:At xs n v)(row':List DV)(hst:Nat.beq s t=false)(hs:sto.get s=some ⟨zz,false,false,(xs.map cd).set n.toNat row⟩)(ht:sto.get t=some ⟨z,true,false,ys.map c⟩)(hm:m=ys.length)(hj:row[j]?=some (.own t 0 m))(hr:row.set j (.dp z (ys.map c))=row') :
  ZM n0 ⟨env,sto,nxt⟩ ⟨env,(s,⟨zz,false,false,(xs.map cd).set n.toNat row'⟩) :: sto.drop t,nxt⟩ :=
 ZM.att hs ht hst (x:=row) (by rw [WD (by rw [Wb];~h.lt)]) (by rw [hj,hm,Wb]) (by
  unfold setC
  rw [VI,WD (by rw [Wb];~h.lt),WE,hr,List.set_set])
theorem tellR{s zz:Nat}{row:List DV}(v':α)(hs:sto.get s=some ⟨zz,false,false,(xs.map cd).set n.toNat row⟩)(hr:row=cd v'):ZM n0 ⟨env,sto,nxt⟩ ⟨env,(s,⟨zz,false,false,(xs.set n.toNat v').map cd⟩) :: sto,nxt⟩ :=
 ZM.tell hs λm h=>by rw [hr] at h;rw [YM];~h
theorem attL{s t z zz j m:Nat}{row:List DV}(row':List DV)(hst:Nat.beq s t=false)(hs:sto.get s=some ⟨zz,false,false,xs.map cd++[row]⟩)(ht:sto.get t=some ⟨z,true,false,ys.map c⟩)(hm:m=ys.length)(hj:row[j]?=some (.own t 0 m))(hr:row.set j (.dp z (ys.map c))=row') :
  ZM n0 ⟨env,sto,nxt⟩ ⟨env,(s,⟨zz,false,false,xs.map cd++[row']⟩) :: sto.drop t,nxt⟩ :=
 ZM.att hs ht hst (i:=xs.length) (x:=row) (by rw [WO Os];simp) (by rw [hj,hm,Wb]) (by
  unfold setC
  rw [VI,WO Os]
  simp [hr])
theorem tellL{s zz:Nat}{row:List DV}(v':α)(hs:sto.get s=some ⟨zz,false,false,xs.map cd++[row]⟩)(hr:row=cd v'):ZM n0 ⟨env,sto,nxt⟩ ⟨env,(s,⟨zz,false,false,(xs++[v']).map cd⟩) :: sto,nxt⟩ :=
 ZM.tell hs λm h=>by rw [hr] at h;simpa using h
theorem tellS{s zz:Nat}{row:List DV}(h:At xs n v)(hs:sto.get s=some ⟨zz,false,false,(xs.map cd).set n.toNat row⟩)(hr:row=cd v):ZM n0 ⟨env,sto,nxt⟩ ⟨env,(s,⟨zz,false,false,xs.map cd⟩) :: sto,nxt⟩ :=
 ZM.tell hs λm h'=>by
  rw [hr] at h'
  have e:(xs.map cd).set n.toNat (cd v)=xs.map cd:=by
   rw [<- YM]
   congr 1
   ð⟨h1,rfl⟩:=at_elem h.h
   ~YW h1
  rw [e] at h'
  ~h'
theorem Qdb{s z0:Nat}(hs:sto.get s=some ⟨z0,true,false,[]⟩):ZM n0 ⟨env,sto,nxt⟩ ⟨env,(s,⟨z0,false,false,([]:List α).map cd⟩) :: sto,nxt⟩:=ZM.unarr hs
theorem Qcq{s z:Nat}{φ:Nat->Nat}{f:Bool}(hs:sto.get s=some (renO φ ⟨z,false,f,xs.map cd⟩))(h:∀ a,(cd a).all dpB=true):ZM n0 ⟨env,sto,nxt⟩ ⟨env,(s,⟨z,false,f,xs.map cd⟩) :: sto,nxt⟩:=ZM.tell hs λm h'=>by rw [renO_deep h] at h';~h'
def lD(z:Nat)(c:β->List DV)(q:List β):List DV:=[.dp z (q.map c)]
end
open Go.RowKit Go.Lib Go.Shelf
theorem Q0{P:Program}(w:World)(dT sT ty elem:TypeId)(k:Nat)(b o dLen dCap:Nat)(a:Addr)(sLen sCap:Nat)(cs:List Value)
  (hu:P.underlying dT=some (.slice elem))(hs:(P.info? elem).map (·.size)=some k)(hn:cs.length=Nat.min sLen dLen*k)
  (hsrc:∀ j v,cs[j]?=some v->w.cell? (a.add j)=some v)(hc:∀ j,j<cs.length->(w.cell? ⟨b,o+j,none⟩).isSome=true)(hf:∀ j,j<cs.length->w.frozen? ⟨b,o+j,none⟩=false)(h1:∀ v∈cs,v.oneCell'=true) :
  (Builtin.copy_ #[dT,sT] ty #[.slice (some ⟨b,o,none⟩) dLen dCap,.slice (some a) sLen sCap]).run P w = .ok (goInt (Nat.min sLen dLen:Nat)) (w.setCells b o cs):=by
 have hl:=run_loadCells_list (P:=P) w a cs hsrc
 have hst:=run_storeCells_cells (P:=P) b o cs 0 w (by simpa using hc) (by simpa using hf) h1
 cases hq:P.info? elem with
 | none=>simp [hq] at hs
 | some i =>
  have hi:i.size=k:=by simpa [hq] using hs
  simp [Builtin.copy_,run_underlying hu,Builtin.lenOf,Builtin.firstCells,sizeOf,typeInfo,hq,hi,<- hn,hl,hst]
set_option maxHeartbeats 4000000 in
set_option maxRecDepth 100000 in
theorem insS_shift (b off n c i vb voff m vc:Nat) (cs vs:List Value) (w:World) (hi:i<n) (hm:0<m) (hroom:n+m<=c) (hc63:c<=9223372036854775807) (hvb:vb≠b)
  (hcl:cs.length=n*3) (hvl:vs.length=m*3)
  (hcs:∀ j v,cs[j]?=some v->w.cell? ⟨b,off+j,none⟩=some v) (hsp:∀ j,j<(n+m)*3->(w.cell? ⟨b,off+j,none⟩).isSome=true) (hfz:∀ j,j<(n+m)*3->w.frozen? ⟨b,off+j,none⟩=false)
  (hvs:∀ j v,vs[j]?=some v->w.cell? ⟨vb,voff+j,none⟩=some v) (h1c:∀ v∈cs,v.oneCell'=true) (h1v:∀ v∈vs,v.oneCell'=true)
  (tA tB:TypeId) (kA kB:Nat) (hsa:w.shape? vb=some (tA,kA)) (hsb:w.shape? b=some (tB,kB)) (hkB:kB≠0) (hfa:w.frozen? ⟨vb,voff,none⟩=false) (hfe:w.frozen? ⟨vb,kA,none⟩=false) :
  Calls Tryz.prog 59 #[.slice (some ⟨b,off,none⟩) n c,.int .i64 i,.slice (some ⟨vb,voff,none⟩) m vc] w λe w' =>
   e = .returned (.slice (some ⟨b,off,none⟩) (n+m) c)/\w'=(w.drew.setCells b (off+(i+m)*3) (cs.drop (i*3))).setCells b (off+i*3) vs:=by
 have hz1:¬ ((m:Int)=0):=by omega
 have mixed:Tryz.prog.follows .mixedOrders=true:=by kernel_rfl
 have hz2:¬ ((i:Int)=(n:Int)):=by omega
 have hsz:(Tryz.prog.info? 81).map (·.size)=some 3:=by kernel_rfl
 have hov:∀ lb cb,(callFunc 99 #[.slice (some ⟨vb,voff,none⟩) m vc,.slice (some ⟨b,off+(i+m)*3,none⟩) lb cb]).run Tryz.prog w = .ok (.value (.bool false)) w:=λlb cb=>by
  rw [run_callFunc_extern Tryz.func99 Ok Ok Ok (e:=Extern.SlicesOverlaps.overlaps #[31,31] #[4]) Ok,
   Lib.run_overlaps_apart w 31 4 81 Tryz.underlying31 3 Tryz.sizeOf81 ⟨vb,voff,none⟩ ⟨b,off+(i+m)*3,none⟩ m vc lb cb hvb tA tB kA kB hsa hsb hkB hfa hfe]
  rfl
 have hdl:(cs.drop (i*3)).length=(n-i)*3:=by rw [Ww,hcl];omega
 have hw1:IntKind.i64.wrap ((i:Int)+(m:Int))=(i:Int)+(m:Int):=by rw [IntKind.wrap_i64];omega
 have hb1:(0:Int)<=(i:Int)+(m:Int):=by omega
 have hin:i<=n:=by omega
 have htn:((i:Int)+(m:Int)).toNat=i+m:=by omega
 have hb2:¬ (c=i+m):=by omega
 have hb3:(i:Int)<=(n:Int)+(m:Int):=by omega
 have hb4:¬ (c=i):=by omega
 have hmn1:Nat.min (n+m-i) (n+m-(i+m))=n-i:=by simp only [UW];split <;> omega
 have hmn2:Nat.min m (n+m-i)=m:=by simp only [UW];split <;> omega
 have hcp1:∀ ty dc sc,(Builtin.copy_ #[31,31] ty #[.slice (some ⟨b,off+(i+m)*3,none⟩) (n+m-(i+m)) dc,.slice (some ⟨b,off+i*3,none⟩) (n+m-i) sc]).run Tryz.prog w.drew = .ok (goInt (n-i:Nat)) (w.drew.setCells b (off+(i+m)*3) (cs.drop (i*3))):=λty dc sc=>by
  rw [<- hmn1]
  ~Q0 w.drew _ _ ty 81 3 b (off+(i+m)*3) (n+m-(i+m)) dc ⟨b,off+i*3,none⟩ (n+m-i) sc (cs.drop (i*3)) Tryz.underlying31 hsz (by rw [hdl,hmn1])
   (λj v hj=>by rw [Addr.add_lit,Vf];~hcs (i*3+j) v (by rwa [W2] at hj))
   (λj hj=>by rw [Vf];~hsp _ Oo) (λj hj=>by rw [Vf];~hfz _ Oo) (λv hv=>h1c v (Uj hv))
 obtain ⟨W1,hW1⟩:∃ W1,W1=w.drew.setCells b (off+(i+m)*3) (cs.drop (i*3)):=⟨_,rfl⟩
 have hsp1:∀ k,k<(n+m)*3->(W1.cell? ⟨b,off+k,none⟩).isSome=true:=λk hk=>by
  rw [hW1]
  ~isSome_setCells b _ _ _ (λj hj=>by rw [Vf];~hsp _ Oo) _ (hsp k hk)
 have hcp2:∀ (W:World),(∀ x,W.cell? x=W1.cell? x)->(∀ x,W.frozen? x=W1.frozen? x)->∀ ty dc,(Builtin.copy_ #[31,31] ty #[.slice (some ⟨b,off+i*3,none⟩) (n+m-i) dc,.slice (some ⟨vb,voff,none⟩) m vc]).run Tryz.prog W = .ok (goInt (m:Nat)) (W.setCells b (off+i*3) vs):=λW hWc hWf ty dc=>by
  have h:=Q0 (P:=Tryz.prog) W 31 31 ty 81 3 b (off+i*3) (n+m-i) dc ⟨vb,voff,none⟩ m vc vs Tryz.underlying31 hsz (by rw [hvl,hmn2])
   (λj v hj=>by
    rw [Addr.add_lit,hWc,hW1,World.cell?_setCells_out b _ _ _ _ (λh _=>absurd h hvb)]
    ~hvs j v hj)
   (λj hj=>by rw [hWc,Vf];~hsp1 _ Oo) (λj hj=>by rw [hWf,hW1,World.frozen?_setCells,Vf];~hfz _ Oo) h1v
  rwa [hmn2] at h
 rw [<- hW1] at hcp1
 go_enter Tryz.func59,Tryz.ntmps59
 go_wp2_with (simp only [hov])
 go_region_law_o (&step_copy_runI rfl _ _ 31 31 rfl _ _ (by simp [Act.eval,Act.put]) (by simp [Act.eval,Act.put]) (hcp1 _ _ _) ?_)
 go_wp2_with (at_builtin;&wpList_copy_runI _ rfl _ _ 31 31 rfl _ _ rfl rfl (hcp2 _ (λ_=>rfl) (λ_=>rfl) _ _) ?_)
 go_ret
 first | ~⟨rfl,rfl⟩ | ~⟨rfl,by rw [hW1]⟩
set_option maxHeartbeats 4000000 in
set_option maxRecDepth 100000 in
theorem insS_end_room (b off n c vb voff m vc:Nat) (vs:List Value) (w:World) (hm:0<m) (hroom:n+m<=c) (hc63:c<=9223372036854775807)
  (hvl:vs.length=m*3) (hsp:∀ j,j<m*3->(w.cell? ⟨b,off+n*3+j,none⟩).isSome=true) (hfz:∀ j,j<m*3->w.frozen? ⟨b,off+n*3+j,none⟩=false)
  (hvs:∀ j v,vs[j]?=some v->w.cell? ⟨vb,voff+j,none⟩=some v) (h1v:∀ v∈vs,v.oneCell'=true) :
  Calls Tryz.prog 59 #[.slice (some ⟨b,off,none⟩) n c,.int .i64 n,.slice (some ⟨vb,voff,none⟩) m vc] w λe w' =>
   e = .returned (.slice (some ⟨b,off,none⟩) (n+m) c)/\w'=w.setCells b (off+n*3) vs:=by
 have hz1:¬ ((m:Int)=0):=by omega
 have mixed:Tryz.prog.follows .mixedOrders=true:=by kernel_rfl
 have hsz:(Tryz.prog.info? 81).map (·.size)=some 3:=by kernel_rfl
 ð⟨i0,hi0,hz0,hzs,hzb⟩:=info_parts (show (Tryz.prog.info? 81).map (λi=>(i.zero,i.size,i.bytes))=some (some (Value.agg #[.int .i64 0,.int .i64 0,.slice none 0 0]),3,40) from by kernel_rfl)
 have hsrc:Src Tryz.prog i0.size 31 (.slice (some ⟨vb,voff,none⟩) m vc) m vs w:=by
  rw [hzs]
  ~Src.ofSlice w Tryz.underlying31 ⟨vb,voff,none⟩ m vc vs hvl (λj u hj=>by rw [Addr.add_lit];~hvs j u hj) h1v
 have hrun:∀ ty,(Builtin.append_ #[31,31] ty #[.slice (some ⟨b,off,none⟩) n c,.slice (some ⟨vb,voff,none⟩) m vc]).run Tryz.prog w = .ok (.slice (some ⟨b,off,none⟩) (n+m) c) (w.setCells b (off+n*3) vs):=λty=>by
  have h:=run_append_room_src (P:=Tryz.prog) (w:=w) 31 31 ty 81 i0 Tryz.underlying31 hi0 b off n c _ m vs hsrc hroom (by rw [hvl,hzs];~hsp) (by rw [hvl,hzs];~hfz)
  rw [hzs] at h
  ~h
 go_enter Tryz.func59,Tryz.ntmps59
 go_wp2_with (at_builtin;&Lib.wpList_append_run _ rfl _ _ _ _ rfl _ _ rfl rfl _ _ (hrun _) ?_)
 go_ret
 ~⟨rfl,rfl⟩
set_option maxHeartbeats 4000000 in
set_option maxRecDepth 100000 in
theorem QdT (base:Option Addr) (n c vb voff m vc:Nat) (cs vs:List Value) (w:World) (hm:0<m) (hnc:n<=c) (hroom:c<n+m) (hbig:(n+m)*40<=140737488355328)
  (hcl:cs.length=n*3) (hvl:vs.length=m*3) (hnil:base=none->n=0)
  (hcs:∀ a,base=some a->∀ j v,cs[j]?=some v->w.cell? (a.add j)=some v)
  (hvs:∀ j v,vs[j]?=some v->w.cell? ⟨vb,voff+j,none⟩=some v) (h1v:∀ v∈vs,v.oneCell'=true) :
  Calls Tryz.prog 59 #[.slice base n c,.int .i64 n,.slice (some ⟨vb,voff,none⟩) m vc] w λe w' =>
   e = .returned (.slice (some ⟨w.heap.size,0,none⟩) (n+m) (grownCap w (n+m) c 81)) /\
   w'=w.drew.alloc (.cells ((cs++vs).toArray++Builtin.zeroCells (Value.agg #[.int .i64 0,.int .i64 0,.slice none 0 0]).cells (grownCap w (n+m) c 81-(n+m))) 81):=by
 ð⟨i0,hi0,hz0,hzs,hzb⟩:=info_parts (show (Tryz.prog.info? 81).map (λi=>(i.zero,i.size,i.bytes))=some (some (Value.agg #[.int .i64 0,.int .i64 0,.slice none 0 0]),3,40) from by kernel_rfl)
 have hz1:¬ ((m:Int)=0):=by omega
 have mixed:Tryz.prog.follows .mixedOrders=true:=by kernel_rfl
 have hsrc:Src Tryz.prog i0.size 31 (.slice (some ⟨vb,voff,none⟩) m vc) m vs w:=by
  rw [hzs]
  ~Src.ofSlice w Tryz.underlying31 ⟨vb,voff,none⟩ m vc vs hvl (λj u hj=>by rw [Addr.add_lit];~hvs j u hj) h1v
 have hold:(Builtin.firstCells i0.size n (.slice base n c)).run Tryz.prog w.drew = .ok cs.toArray w.drew:=by
  rw [hzs]
  cases base with
  | none =>
   have h0:=hnil rfl
   subst h0
   rw [Vp.1 (by omega:cs.length=0)]
   ~run_firstCells_none w.drew 3 0 0 c
  | some a=>~run_firstCells_some w.drew 3 n a n c cs hcl (λj v hj=>hcs a rfl j v hj)
 have hrun:∀ ty,(Builtin.append_ #[31,31] ty #[.slice base n c,.slice (some ⟨vb,voff,none⟩) m vc]).run Tryz.prog w=_:=λty =>
  run_append_grow_src w 31 31 ty 81 i0 _ Tryz.underlying31 hi0 hz0 base n c cs hold _ m vs hsrc hroom Oo (by rw [hzb];~growslice_fits hroom hbig)
 go_enter Tryz.func59,Tryz.ntmps59
 cases base with
 | none =>
  have h0:=hnil rfl
  subst h0
  go_wp2_with (at_builtin;&Lib.wpList_append_run _ rfl _ _ _ _ rfl _ _ rfl rfl _ _ (hrun _) ?_)
  go_ret
  ~⟨rfl,rfl⟩
 | some a =>
  ð⟨ab,ao,asp⟩:=a
  go_wp2_with (at_builtin;&Lib.wpList_append_run _ rfl _ _ _ _ rfl _ _ rfl rfl _ _ (hrun _) ?_)
  all_goals (go_ret;~⟨rfl,rfl⟩)
set_option maxHeartbeats 4000000 in
set_option maxRecDepth 100000 in
theorem insS_grow (b off n c i vb voff m vc:Nat) (cs vs:List Value) (w:World) (hi:i<n) (hm:0<m) (hnc:n<=c) (hroom:c<n+m) (hbig:(n+m)*40<=140737488355328)
  (hcl:cs.length=n*3) (hvl:vs.length=m*3)
  (hcs:∀ j v,cs[j]?=some v->w.cell? ⟨b,off+j,none⟩=some v)
  (hvs:∀ j v,vs[j]?=some v->w.cell? ⟨vb,voff+j,none⟩=some v) (h1c:∀ v∈cs,v.oneCell'=true) (h1v:∀ v∈vs,v.oneCell'=true) :
  Calls Tryz.prog 59 #[.slice (some ⟨b,off,none⟩) n c,.int .i64 i,.slice (some ⟨vb,voff,none⟩) m vc] w λe w' =>
   e = .returned (.slice (some ⟨w.heap.size,0,none⟩) (n+m) (grownCap w (n+m) c 81)) /\
   w'=(((w.alloc (.cells ((cs.take (i*3)).toArray++Builtin.zeroCells (Value.agg #[.int .i64 0,.int .i64 0,.slice none 0 0]).cells (n+m-i)++Builtin.zeroCells (Value.agg #[.int .i64 0,.int .i64 0,.slice none 0 0]).cells (grownCap w (n+m) c 81-(n+m))) 81)).drew.setCells w.heap.size (i*3) vs).drew).setCells w.heap.size ((i+m)*3) (cs.drop (i*3)):=by
 ð⟨i0,hi0,hz0,hzs,hzb⟩:=info_parts (show (Tryz.prog.info? 81).map (λi=>(i.zero,i.size,i.bytes))=some (some (Value.agg #[.int .i64 0,.int .i64 0,.slice none 0 0]),3,40) from by kernel_rfl)
 have hz1:¬ ((m:Int)=0):=by omega
 have mixed:Tryz.prog.follows .mixedOrders=true:=by kernel_rfl
 have hz2:¬ ((i:Int)=(n:Int)):=by omega
 have hz3:(c:Int)<(n:Int)+(m:Int):=by omega
 have hsz:(Tryz.prog.info? 81).map (·.size)=some 3:=by kernel_rfl
 have hbw:b<w.heap.size:=block_lt_of_cell (hcs 0 _ (Wa Oo))
 have hvw:vb<w.heap.size:=block_lt_of_cell (hvs 0 _ (Wa Oo))
 have hkk:(n:Int)+(m:Int)-(i:Int)=((n+m-i:Nat):Int):=by omega
 have hik:i+(n+m-i)=n+m:=by omega
 have hmn1:Nat.min (n-i) (n+m-(i+m))=n-i:=by simp only [UW];split <;> omega
 have hmn2:Nat.min m (n+m-i)=m:=by simp only [UW];split <;> omega
 have hold:(Builtin.firstCells i0.size i (.slice (some ⟨b,off,none⟩) i c)).run Tryz.prog w.drew = .ok (cs.take (i*3)).toArray w.drew:=by
  rw [hzs]
  ~run_firstCells_some w.drew 3 i ⟨b,off,none⟩ i c (cs.take (i*3)) (by rw [Wi,hcl];omega) (λj v hj=>by
   rw [Addr.add_lit]
   rw [WL] at hj
   split at hj
   ·~hcs j v hj
   ·cases hj)
 have hrz:∀ ty,(Builtin.append_ #[31,3] ty #[.slice (some ⟨b,off,none⟩) i c,.int .i64 ((n:Int)+(m:Int)-(i:Int))]).run Tryz.prog w =
   .ok (.slice (some ⟨w.heap.size,0,none⟩) (n+m) (grownCap w (n+m) c 81)) (w.drew.alloc (.cells ((cs.take (i*3)).toArray++Builtin.zeroCells (Value.agg #[.int .i64 0,.int .i64 0,.slice none 0 0]).cells (n+m-i)++Builtin.zeroCells (Value.agg #[.int .i64 0,.int .i64 0,.slice none 0 0]).cells (grownCap w (n+m) c 81-(n+m))) 81)):=λty=>by
  have h:=Lib.run_append_grow_zeros w 31 3 ty 81 i0 _ .i64 .i64 Tryz.underlying31 Tryz.underlying3 hi0 hz0 (some ⟨b,off,none⟩) i c (cs.take (i*3)) hold (n+m-i) Oo Oo Oo Oo (by rw [hzb];omega) (by rw [hzb,hik];~growslice_fits hroom hbig)
  rw [hik] at h
  rw [hkk]
  ~h
 obtain ⟨G,hG⟩:∃ G,G=grownCap w (n+m) c 81:=⟨_,rfl⟩
 obtain ⟨ROW,hROW⟩:∃ ROW:Array Value,ROW=(cs.take (i*3)).toArray++Builtin.zeroCells (Value.agg #[.int .i64 0,.int .i64 0,.slice none 0 0]).cells (n+m-i)++Builtin.zeroCells (Value.agg #[.int .i64 0,.int .i64 0,.slice none 0 0]).cells (G-(n+m)):=⟨_,rfl⟩
 rw [<- hG] at hrz ⊢
 rw [<- hROW] at hrz ⊢
 have hRl:(n+m)*3<=ROW.size:=by
  rw [hROW]
  simp [Builtin.zeroCells,Value.cells,U1,hcl]
  omega
 obtain ⟨W1,hW1⟩:∃ W1,W1=w.drew.alloc (.cells ROW 81):=⟨_,rfl⟩
 rw [<- hW1] at hrz
 have hN:∀ j,j<(n+m)*3->(W1.cell? ⟨w.heap.size,j,none⟩).isSome=true:=λj hj=>by
  rw [hW1,World.cell?_alloc_at (w:=w.drew) ROW _ w.heap.size j rfl,Us Oo];rfl
 have hNf:∀ j,W1.frozen? ⟨w.heap.size,j,none⟩=false:=λj=>by rw [hW1];~World.frozen?_alloc_at (w:=w.drew) ROW _ w.heap.size j rfl
 have hOb:∀ j v,w.cell? ⟨b,j,none⟩=some v->W1.cell? ⟨b,j,none⟩=some v:=λj v h=>by rw [hW1,World.cell?_alloc_past (w:=w.drew) _ b j hbw];~h
 have hOv:∀ j v,w.cell? ⟨vb,j,none⟩=some v->W1.cell? ⟨vb,j,none⟩=some v:=λj v h=>by rw [hW1,World.cell?_alloc_past (w:=w.drew) _ vb j hvw];~h
 have hcpA:∀ (W:World),(∀ x,W.cell? x=W1.cell? x)->(∀ x,W.frozen? x=W1.frozen? x)->∀ ty dc,(Builtin.copy_ #[31,31] ty #[.slice (some ⟨w.heap.size,i*3,none⟩) (n+m-i) dc,.slice (some ⟨vb,voff,none⟩) m vc]).run Tryz.prog W = .ok (goInt (m:Nat)) (W.setCells w.heap.size (i*3) vs):=λW hWc hWf ty dc=>by
  have h:=Q0 (P:=Tryz.prog) W 31 31 ty 81 3 w.heap.size (i*3) (n+m-i) dc ⟨vb,voff,none⟩ m vc vs Tryz.underlying31 hsz (by rw [hvl,hmn2])
   (λj v hj=>by rw [Addr.add_lit,hWc];~hOv _ v (hvs j v hj))
   (λj hj=>by rw [hWc];~hN _ Oo) (λj hj=>by rw [hWf];~hNf _) h1v
  rwa [hmn2] at h
 have hGn:n+m<=G:=by rw [hG];~grownCap_ge w _ _ _
 have hG63:G<=9223372036854775807:=by
  have:=grownCap_le_maxLen w (n+m) c 81 (by unfold maxLen;omega)
  rw [<- hG] at this
  unfold maxLen at this
  omega
 have hGi:¬ (G=i):=by omega
 have hGim:¬ (G=i+m):=by omega
 have hci:¬ (c=i):=by omega
 have hbN:b≠w.heap.size:=by omega
 have hdl:(cs.drop (i*3)).length=(n-i)*3:=by rw [Ww,hcl];omega
 have hcpB:∀ (W:World),(∀ x,W.cell? x=(W1.setCells w.heap.size (i*3) vs).cell? x)->(∀ x,W.frozen? x=(W1.setCells w.heap.size (i*3) vs).frozen? x)->∀ ty dc sc,(Builtin.copy_ #[31,31] ty #[.slice (some ⟨w.heap.size,(i+m)*3,none⟩) (n+m-(i+m)) dc,.slice (some ⟨b,off+i*3,none⟩) (n-i) sc]).run Tryz.prog W = .ok (goInt (n-i:Nat)) (W.setCells w.heap.size ((i+m)*3) (cs.drop (i*3))):=λW hWc hWf ty dc sc=>by
  have h:=Q0 (P:=Tryz.prog) W 31 31 ty 81 3 w.heap.size ((i+m)*3) (n+m-(i+m)) dc ⟨b,off+i*3,none⟩ (n-i) sc (cs.drop (i*3)) Tryz.underlying31 hsz (by rw [hdl,hmn1])
   (λj v hj=>by
    rw [Addr.add_lit,hWc,World.cell?_setCells_out _ _ _ _ _ (λh _=>absurd h hbN),Vf]
    ~hOb _ v (hcs (i*3+j) v (by rwa [W2] at hj)))
   (λj hj=>by rw [hWc];~isSome_setCells _ _ _ _ (λt ht=>hN _ Oo) _ (hN _ Oo))
   (λj hj=>by rw [hWf,World.frozen?_setCells];~hNf _) (λv hv=>h1c v (Uj hv))
  rwa [hmn1] at h
 subst hW1
 have hE1:∀ x,((w.alloc (.cells ROW 81)).drew).cell? x=(w.drew.alloc (.cells ROW 81)).cell? x:=λx=>rfl
 have hE2:∀ x,((w.alloc (.cells ROW 81)).drew).frozen? x=(w.drew.alloc (.cells ROW 81)).frozen? x:=λx=>rfl
 have hF1:∀ x,(((w.alloc (.cells ROW 81)).drew.setCells w.heap.size (i*3) vs).drew).cell? x=((w.drew.alloc (.cells ROW 81)).setCells w.heap.size (i*3) vs).cell? x:=λx=>rfl
 have hF2:∀ x,(((w.alloc (.cells ROW 81)).drew.setCells w.heap.size (i*3) vs).drew).frozen? x=((w.drew.alloc (.cells ROW 81)).setCells w.heap.size (i*3) vs).frozen? x:=λx=>rfl
 have hw1:IntKind.i64.wrap ((i:Int)+(m:Int))=(i:Int)+(m:Int):=by rw [IntKind.wrap_i64];omega
 have hb1:(0:Int)<=(i:Int)+(m:Int):=by omega
 have hin:i<=n:=by omega
 have htn:((i:Int)+(m:Int)).toNat=i+m:=by omega
 have hb3:(i:Int)<=(n:Int):=by omega
 clear hkk hik hold hROW hG hRl
 go_enter Tryz.func59,Tryz.ntmps59
 go_wp2_with (first
  | (at_builtin;&Lib.wpList_append_run _ rfl _ _ _ _ rfl _ _ rfl rfl _ _ (hrz _) ?_)
  | (at_builtin;&wpList_copy_runI _ rfl _ _ 31 31 rfl _ _ rfl rfl (hcpA _ hE1 hE2 _ _) ?_)
  | (at_builtin;&wpList_copy_runI _ rfl _ _ 31 31 rfl _ _ rfl rfl (hcpB _ (λ_=>rfl) (λ_=>rfl) _ _ _) ?_))
 go_region_law_o (&step_copy_runI rfl _ _ 31 31 rfl (.slice (some ⟨w.heap.size,(i+m)*3,none⟩) (n+m-(i+m)) (G-(i+m))) (.slice (some ⟨b,off+i*3,none⟩) (n-i) (c-i)) (by simp [Act.eval,Act.put]) (by simp [Act.eval,Act.put]) (hcpB _ hF1 hF2 3 (G-(i+m)) (c-i)) ?_)
 go_wp2
 go_ret
 ~⟨rfl,rfl⟩
set_option maxHeartbeats 4000000 in
set_option maxRecDepth 100000 in
theorem insI_shift (b off n c i vb voff m vc:Nat) (cs vs:List Value) (w:World) (hi:i<n) (hm:0<m) (hroom:n+m<=c) (hc63:c<=9223372036854775807) (hvb:vb≠b)
  (hcl:cs.length=n*1) (hvl:vs.length=m*1)
  (hcs:∀ j v,cs[j]?=some v->w.cell? ⟨b,off+j,none⟩=some v) (hsp:∀ j,j<(n+m)*1->(w.cell? ⟨b,off+j,none⟩).isSome=true) (hfz:∀ j,j<(n+m)*1->w.frozen? ⟨b,off+j,none⟩=false)
  (hvs:∀ j v,vs[j]?=some v->w.cell? ⟨vb,voff+j,none⟩=some v) (h1c:∀ v∈cs,v.oneCell'=true) (h1v:∀ v∈vs,v.oneCell'=true)
  (tA tB:TypeId) (kA kB:Nat) (hsa:w.shape? vb=some (tA,kA)) (hsb:w.shape? b=some (tB,kB)) (hkB:kB≠0) (hfa:w.frozen? ⟨vb,voff,none⟩=false) (hfe:w.frozen? ⟨vb,kA,none⟩=false) :
  Calls Tryz.prog 60 #[.slice (some ⟨b,off,none⟩) n c,.int .i64 i,.slice (some ⟨vb,voff,none⟩) m vc] w λe w' =>
   e = .returned (.slice (some ⟨b,off,none⟩) (n+m) c)/\w'=(w.drew.setCells b (off+(i+m)) (cs.drop (i))).setCells b (off+i) vs:=by
 have hz1:¬ ((m:Int)=0):=by omega
 have mixed:Tryz.prog.follows .mixedOrders=true:=by kernel_rfl
 have hz2:¬ ((i:Int)=(n:Int)):=by omega
 have hsz:(Tryz.prog.info? 3).map (·.size)=some 1:=by kernel_rfl
 have hov:∀ lb cb,(callFunc 101 #[.slice (some ⟨vb,voff,none⟩) m vc,.slice (some ⟨b,off+(i+m),none⟩) lb cb]).run Tryz.prog w = .ok (.value (.bool false)) w:=λlb cb=>by
  rw [run_callFunc_extern Tryz.func101 Ok Ok Ok (e:=Extern.SlicesOverlaps.overlaps #[22,22] #[4]) Ok,
   Lib.run_overlaps_apart w 22 4 3 Tryz.underlying22 1 Tryz.sizeOf3 ⟨vb,voff,none⟩ ⟨b,off+(i+m),none⟩ m vc lb cb hvb tA tB kA kB hsa hsb hkB hfa hfe]
  rfl
 have hdl:(cs.drop (i)).length=(n-i)*1:=by rw [Ww,hcl];omega
 have hw1:IntKind.i64.wrap ((i:Int)+(m:Int))=(i:Int)+(m:Int):=by rw [IntKind.wrap_i64];omega
 have hb1:(0:Int)<=(i:Int)+(m:Int):=by omega
 have hin:i<=n:=by omega
 have htn:((i:Int)+(m:Int)).toNat=i+m:=by omega
 have hb2:¬ (c=i+m):=by omega
 have hb3:(i:Int)<=(n:Int)+(m:Int):=by omega
 have hb4:¬ (c=i):=by omega
 have hmn1:Nat.min (n+m-i) (n+m-(i+m))=n-i:=by simp only [UW];split <;> omega
 have hmn2:Nat.min m (n+m-i)=m:=by simp only [UW];split <;> omega
 have hcp1:∀ ty dc sc,(Builtin.copy_ #[22,22] ty #[.slice (some ⟨b,off+(i+m),none⟩) (n+m-(i+m)) dc,.slice (some ⟨b,off+i,none⟩) (n+m-i) sc]).run Tryz.prog w.drew = .ok (goInt (n-i:Nat)) (w.drew.setCells b (off+(i+m)) (cs.drop (i))):=λty dc sc=>by
  rw [<- hmn1]
  ~Q0 w.drew _ _ ty 3 1 b (off+(i+m)) (n+m-(i+m)) dc ⟨b,off+i,none⟩ (n+m-i) sc (cs.drop (i)) Tryz.underlying22 hsz (by rw [hdl,hmn1])
   (λj v hj=>by rw [Addr.add_lit,Vf];~hcs (i+j) v (by rwa [W2] at hj))
   (λj hj=>by rw [Vf];~hsp _ Oo) (λj hj=>by rw [Vf];~hfz _ Oo) (λv hv=>h1c v (Uj hv))
 obtain ⟨W1,hW1⟩:∃ W1,W1=w.drew.setCells b (off+(i+m)) (cs.drop (i)):=⟨_,rfl⟩
 have hsp1:∀ k,k<(n+m)*1->(W1.cell? ⟨b,off+k,none⟩).isSome=true:=λk hk=>by
  rw [hW1]
  ~isSome_setCells b _ _ _ (λj hj=>by rw [Vf];~hsp _ Oo) _ (hsp k hk)
 have hcp2:∀ (W:World),(∀ x,W.cell? x=W1.cell? x)->(∀ x,W.frozen? x=W1.frozen? x)->∀ ty dc,(Builtin.copy_ #[22,22] ty #[.slice (some ⟨b,off+i,none⟩) (n+m-i) dc,.slice (some ⟨vb,voff,none⟩) m vc]).run Tryz.prog W = .ok (goInt (m:Nat)) (W.setCells b (off+i) vs):=λW hWc hWf ty dc=>by
  have h:=Q0 (P:=Tryz.prog) W 22 22 ty 3 1 b (off+i) (n+m-i) dc ⟨vb,voff,none⟩ m vc vs Tryz.underlying22 hsz (by rw [hvl,hmn2])
   (λj v hj=>by
    rw [Addr.add_lit,hWc,hW1,World.cell?_setCells_out b _ _ _ _ (λh _=>absurd h hvb)]
    ~hvs j v hj)
   (λj hj=>by rw [hWc,Vf];~hsp1 _ Oo) (λj hj=>by rw [hWf,hW1,World.frozen?_setCells,Vf];~hfz _ Oo) h1v
  rwa [hmn2] at h
 rw [<- hW1] at hcp1
 go_enter Tryz.func60,Tryz.ntmps60
 go_wp2_with (simp only [hov])
 go_region_law_o (&step_copy_runI rfl _ _ 22 22 rfl _ _ (by simp [Act.eval,Act.put]) (by simp [Act.eval,Act.put]) (hcp1 _ _ _) ?_)
 go_wp2_with (at_builtin;&wpList_copy_runI _ rfl _ _ 22 22 rfl _ _ rfl rfl (hcp2 _ (λ_=>rfl) (λ_=>rfl) _ _) ?_)
 go_ret
 first | ~⟨rfl,rfl⟩ | ~⟨rfl,by rw [hW1]⟩
set_option maxHeartbeats 4000000 in
set_option maxRecDepth 100000 in
theorem insI_end_room (b off n c vb voff m vc:Nat) (vs:List Value) (w:World) (hm:0<m) (hroom:n+m<=c) (hc63:c<=9223372036854775807)
  (hvl:vs.length=m*1) (hsp:∀ j,j<m*1->(w.cell? ⟨b,off+n+j,none⟩).isSome=true) (hfz:∀ j,j<m*1->w.frozen? ⟨b,off+n+j,none⟩=false)
  (hvs:∀ j v,vs[j]?=some v->w.cell? ⟨vb,voff+j,none⟩=some v) (h1v:∀ v∈vs,v.oneCell'=true) :
  Calls Tryz.prog 60 #[.slice (some ⟨b,off,none⟩) n c,.int .i64 n,.slice (some ⟨vb,voff,none⟩) m vc] w λe w' =>
   e = .returned (.slice (some ⟨b,off,none⟩) (n+m) c)/\w'=w.setCells b (off+n) vs:=by
 have hz1:¬ ((m:Int)=0):=by omega
 have mixed:Tryz.prog.follows .mixedOrders=true:=by kernel_rfl
 have hsz:(Tryz.prog.info? 3).map (·.size)=some 1:=by kernel_rfl
 ð⟨i0,hi0,hz0,hzs,hzb⟩:=info_parts (show (Tryz.prog.info? 3).map (λi=>(i.zero,i.size,i.bytes))=some (some (Value.int .i64 0),1,8) from by kernel_rfl)
 have hsrc:Src Tryz.prog i0.size 22 (.slice (some ⟨vb,voff,none⟩) m vc) m vs w:=by
  rw [hzs]
  ~Src.ofSlice w Tryz.underlying22 ⟨vb,voff,none⟩ m vc vs hvl (λj u hj=>by rw [Addr.add_lit];~hvs j u hj) h1v
 have hrun:∀ ty,(Builtin.append_ #[22,22] ty #[.slice (some ⟨b,off,none⟩) n c,.slice (some ⟨vb,voff,none⟩) m vc]).run Tryz.prog w = .ok (.slice (some ⟨b,off,none⟩) (n+m) c) (w.setCells b (off+n) vs):=λty=>by
  have h:=run_append_room_src (P:=Tryz.prog) (w:=w) 22 22 ty 3 i0 Tryz.underlying22 hi0 b off n c _ m vs hsrc hroom (by rw [hvl,hzs];simpa using hsp) (by rw [hvl,hzs];simpa using hfz)
  rw [hzs,Nat.mul_one] at h
  ~h
 go_enter Tryz.func60,Tryz.ntmps60
 go_wp2_with (at_builtin;&Lib.wpList_append_run _ rfl _ _ _ _ rfl _ _ rfl rfl _ _ (hrun _) ?_)
 go_ret
 ~⟨rfl,rfl⟩
set_option maxHeartbeats 4000000 in
set_option maxRecDepth 100000 in
theorem QdU (base:Option Addr) (n c vb voff m vc:Nat) (cs vs:List Value) (w:World) (hm:0<m) (hnc:n<=c) (hroom:c<n+m) (hbig:(n+m)*8<=140737488355328)
  (hcl:cs.length=n*1) (hvl:vs.length=m*1) (hnil:base=none->n=0)
  (hcs:∀ a,base=some a->∀ j v,cs[j]?=some v->w.cell? (a.add j)=some v)
  (hvs:∀ j v,vs[j]?=some v->w.cell? ⟨vb,voff+j,none⟩=some v) (h1v:∀ v∈vs,v.oneCell'=true) :
  Calls Tryz.prog 60 #[.slice base n c,.int .i64 n,.slice (some ⟨vb,voff,none⟩) m vc] w λe w' =>
   e = .returned (.slice (some ⟨w.heap.size,0,none⟩) (n+m) (grownCap w (n+m) c 3)) /\
   w'=w.drew.alloc (.cells ((cs++vs).toArray++Builtin.zeroCells (Value.int .i64 0).cells (grownCap w (n+m) c 3-(n+m))) 3):=by
 ð⟨i0,hi0,hz0,hzs,hzb⟩:=info_parts (show (Tryz.prog.info? 3).map (λi=>(i.zero,i.size,i.bytes))=some (some (Value.int .i64 0),1,8) from by kernel_rfl)
 have hz1:¬ ((m:Int)=0):=by omega
 have mixed:Tryz.prog.follows .mixedOrders=true:=by kernel_rfl
 have hsrc:Src Tryz.prog i0.size 22 (.slice (some ⟨vb,voff,none⟩) m vc) m vs w:=by
  rw [hzs]
  ~Src.ofSlice w Tryz.underlying22 ⟨vb,voff,none⟩ m vc vs hvl (λj u hj=>by rw [Addr.add_lit];~hvs j u hj) h1v
 have hold:(Builtin.firstCells i0.size n (.slice base n c)).run Tryz.prog w.drew = .ok cs.toArray w.drew:=by
  rw [hzs]
  cases base with
  | none =>
   have h0:=hnil rfl
   subst h0
   rw [Vp.1 (by omega:cs.length=0)]
   ~run_firstCells_none w.drew 1 0 0 c
  | some a=>~run_firstCells_some w.drew 1 n a n c cs hcl (λj v hj=>hcs a rfl j v hj)
 have hrun:∀ ty,(Builtin.append_ #[22,22] ty #[.slice base n c,.slice (some ⟨vb,voff,none⟩) m vc]).run Tryz.prog w=_:=λty =>
  run_append_grow_src w 22 22 ty 3 i0 _ Tryz.underlying22 hi0 hz0 base n c cs hold _ m vs hsrc hroom Oo (by rw [hzb];~growslice_fits hroom hbig)
 go_enter Tryz.func60,Tryz.ntmps60
 cases base with
 | none =>
  have h0:=hnil rfl
  subst h0
  go_wp2_with (at_builtin;&Lib.wpList_append_run _ rfl _ _ _ _ rfl _ _ rfl rfl _ _ (hrun _) ?_)
  go_ret
  ~⟨rfl,rfl⟩
 | some a =>
  ð⟨ab,ao,asp⟩:=a
  go_wp2_with (at_builtin;&Lib.wpList_append_run _ rfl _ _ _ _ rfl _ _ rfl rfl _ _ (hrun _) ?_)
  all_goals (go_ret;~⟨rfl,rfl⟩)
set_option maxHeartbeats 4000000 in
set_option maxRecDepth 100000 in
theorem insI_grow (b off n c i vb voff m vc:Nat) (cs vs:List Value) (w:World) (hi:i<n) (hm:0<m) (hnc:n<=c) (hroom:c<n+m) (hbig:(n+m)*8<=140737488355328)
  (hcl:cs.length=n*1) (hvl:vs.length=m*1)
  (hcs:∀ j v,cs[j]?=some v->w.cell? ⟨b,off+j,none⟩=some v)
  (hvs:∀ j v,vs[j]?=some v->w.cell? ⟨vb,voff+j,none⟩=some v) (h1c:∀ v∈cs,v.oneCell'=true) (h1v:∀ v∈vs,v.oneCell'=true) :
  Calls Tryz.prog 60 #[.slice (some ⟨b,off,none⟩) n c,.int .i64 i,.slice (some ⟨vb,voff,none⟩) m vc] w λe w' =>
   e = .returned (.slice (some ⟨w.heap.size,0,none⟩) (n+m) (grownCap w (n+m) c 3)) /\
   w'=(((w.alloc (.cells ((cs.take (i)).toArray++Builtin.zeroCells (Value.int .i64 0).cells (n+m-i)++Builtin.zeroCells (Value.int .i64 0).cells (grownCap w (n+m) c 3-(n+m))) 3)).drew.setCells w.heap.size (i) vs).drew).setCells w.heap.size ((i+m)) (cs.drop (i)):=by
 ð⟨i0,hi0,hz0,hzs,hzb⟩:=info_parts (show (Tryz.prog.info? 3).map (λi=>(i.zero,i.size,i.bytes))=some (some (Value.int .i64 0),1,8) from by kernel_rfl)
 have hz1:¬ ((m:Int)=0):=by omega
 have mixed:Tryz.prog.follows .mixedOrders=true:=by kernel_rfl
 have hz2:¬ ((i:Int)=(n:Int)):=by omega
 have hz3:(c:Int)<(n:Int)+(m:Int):=by omega
 have hsz:(Tryz.prog.info? 3).map (·.size)=some 1:=by kernel_rfl
 have hbw:b<w.heap.size:=block_lt_of_cell (hcs 0 _ (Wa Oo))
 have hvw:vb<w.heap.size:=block_lt_of_cell (hvs 0 _ (Wa Oo))
 have hkk:(n:Int)+(m:Int)-(i:Int)=((n+m-i:Nat):Int):=by omega
 have hik:i+(n+m-i)=n+m:=by omega
 have hmn1:Nat.min (n-i) (n+m-(i+m))=n-i:=by simp only [UW];split <;> omega
 have hmn2:Nat.min m (n+m-i)=m:=by simp only [UW];split <;> omega
 have hold:(Builtin.firstCells i0.size i (.slice (some ⟨b,off,none⟩) i c)).run Tryz.prog w.drew = .ok (cs.take (i)).toArray w.drew:=by
  rw [hzs]
  ~run_firstCells_some w.drew 1 i ⟨b,off,none⟩ i c (cs.take (i)) (by rw [Wi,hcl];omega) (λj v hj=>by
   rw [Addr.add_lit]
   rw [WL] at hj
   split at hj
   ·~hcs j v hj
   ·cases hj)
 have hrz:∀ ty,(Builtin.append_ #[22,3] ty #[.slice (some ⟨b,off,none⟩) i c,.int .i64 ((n:Int)+(m:Int)-(i:Int))]).run Tryz.prog w =
   .ok (.slice (some ⟨w.heap.size,0,none⟩) (n+m) (grownCap w (n+m) c 3)) (w.drew.alloc (.cells ((cs.take (i)).toArray++Builtin.zeroCells (Value.int .i64 0).cells (n+m-i)++Builtin.zeroCells (Value.int .i64 0).cells (grownCap w (n+m) c 3-(n+m))) 3)):=λty=>by
  have h:=Lib.run_append_grow_zeros w 22 3 ty 3 i0 _ .i64 .i64 Tryz.underlying22 Tryz.underlying3 hi0 hz0 (some ⟨b,off,none⟩) i c (cs.take (i)) hold (n+m-i) Oo Oo Oo Oo (by rw [hzb];omega) (by rw [hzb,hik];~growslice_fits hroom hbig)
  rw [hik] at h
  rw [hkk]
  ~h
 obtain ⟨G,hG⟩:∃ G,G=grownCap w (n+m) c 3:=⟨_,rfl⟩
 obtain ⟨ROW,hROW⟩:∃ ROW:Array Value,ROW=(cs.take (i)).toArray++Builtin.zeroCells (Value.int .i64 0).cells (n+m-i)++Builtin.zeroCells (Value.int .i64 0).cells (G-(n+m)):=⟨_,rfl⟩
 rw [<- hG] at hrz ⊢
 rw [<- hROW] at hrz ⊢
 have hRl:(n+m)*1<=ROW.size:=by
  rw [hROW]
  simp [Builtin.zeroCells,Value.cells,U1,hcl]
  omega
 obtain ⟨W1,hW1⟩:∃ W1,W1=w.drew.alloc (.cells ROW 3):=⟨_,rfl⟩
 rw [<- hW1] at hrz
 have hN:∀ j,j<(n+m)*1->(W1.cell? ⟨w.heap.size,j,none⟩).isSome=true:=λj hj=>by
  rw [hW1,World.cell?_alloc_at (w:=w.drew) ROW _ w.heap.size j rfl,Us Oo];rfl
 have hNf:∀ j,W1.frozen? ⟨w.heap.size,j,none⟩=false:=λj=>by rw [hW1];~World.frozen?_alloc_at (w:=w.drew) ROW _ w.heap.size j rfl
 have hOb:∀ j v,w.cell? ⟨b,j,none⟩=some v->W1.cell? ⟨b,j,none⟩=some v:=λj v h=>by rw [hW1,World.cell?_alloc_past (w:=w.drew) _ b j hbw];~h
 have hOv:∀ j v,w.cell? ⟨vb,j,none⟩=some v->W1.cell? ⟨vb,j,none⟩=some v:=λj v h=>by rw [hW1,World.cell?_alloc_past (w:=w.drew) _ vb j hvw];~h
 have hcpA:∀ (W:World),(∀ x,W.cell? x=W1.cell? x)->(∀ x,W.frozen? x=W1.frozen? x)->∀ ty dc,(Builtin.copy_ #[22,22] ty #[.slice (some ⟨w.heap.size,i,none⟩) (n+m-i) dc,.slice (some ⟨vb,voff,none⟩) m vc]).run Tryz.prog W = .ok (goInt (m:Nat)) (W.setCells w.heap.size (i) vs):=λW hWc hWf ty dc=>by
  have h:=Q0 (P:=Tryz.prog) W 22 22 ty 3 1 w.heap.size (i) (n+m-i) dc ⟨vb,voff,none⟩ m vc vs Tryz.underlying22 hsz (by rw [hvl,hmn2])
   (λj v hj=>by rw [Addr.add_lit,hWc];~hOv _ v (hvs j v hj))
   (λj hj=>by rw [hWc];~hN _ Oo) (λj hj=>by rw [hWf];~hNf _) h1v
  rwa [hmn2] at h
 have hGn:n+m<=G:=by rw [hG];~grownCap_ge w _ _ _
 have hG63:G<=9223372036854775807:=by
  have:=grownCap_le_maxLen w (n+m) c 3 (by unfold maxLen;omega)
  rw [<- hG] at this
  unfold maxLen at this
  omega
 have hGi:¬ (G=i):=by omega
 have hGim:¬ (G=i+m):=by omega
 have hci:¬ (c=i):=by omega
 have hbN:b≠w.heap.size:=by omega
 have hdl:(cs.drop (i)).length=(n-i)*1:=by rw [Ww,hcl];omega
 have hcpB:∀ (W:World),(∀ x,W.cell? x=(W1.setCells w.heap.size (i) vs).cell? x)->(∀ x,W.frozen? x=(W1.setCells w.heap.size (i) vs).frozen? x)->∀ ty dc sc,(Builtin.copy_ #[22,22] ty #[.slice (some ⟨w.heap.size,(i+m),none⟩) (n+m-(i+m)) dc,.slice (some ⟨b,off+i,none⟩) (n-i) sc]).run Tryz.prog W = .ok (goInt (n-i:Nat)) (W.setCells w.heap.size ((i+m)) (cs.drop (i))):=λW hWc hWf ty dc sc=>by
  have h:=Q0 (P:=Tryz.prog) W 22 22 ty 3 1 w.heap.size ((i+m)) (n+m-(i+m)) dc ⟨b,off+i,none⟩ (n-i) sc (cs.drop (i)) Tryz.underlying22 hsz (by rw [hdl,hmn1])
   (λj v hj=>by
    rw [Addr.add_lit,hWc,World.cell?_setCells_out _ _ _ _ _ (λh _=>absurd h hbN),Vf]
    ~hOb _ v (hcs (i+j) v (by rwa [W2] at hj)))
   (λj hj=>by rw [hWc];~isSome_setCells _ _ _ _ (λt ht=>hN _ Oo) _ (hN _ Oo))
   (λj hj=>by rw [hWf,World.frozen?_setCells];~hNf _) (λv hv=>h1c v (Uj hv))
  rwa [hmn1] at h
 subst hW1
 have hE1:∀ x,((w.alloc (.cells ROW 3)).drew).cell? x=(w.drew.alloc (.cells ROW 3)).cell? x:=λx=>rfl
 have hE2:∀ x,((w.alloc (.cells ROW 3)).drew).frozen? x=(w.drew.alloc (.cells ROW 3)).frozen? x:=λx=>rfl
 have hF1:∀ x,(((w.alloc (.cells ROW 3)).drew.setCells w.heap.size (i) vs).drew).cell? x=((w.drew.alloc (.cells ROW 3)).setCells w.heap.size (i) vs).cell? x:=λx=>rfl
 have hF2:∀ x,(((w.alloc (.cells ROW 3)).drew.setCells w.heap.size (i) vs).drew).frozen? x=((w.drew.alloc (.cells ROW 3)).setCells w.heap.size (i) vs).frozen? x:=λx=>rfl
 have hw1:IntKind.i64.wrap ((i:Int)+(m:Int))=(i:Int)+(m:Int):=by rw [IntKind.wrap_i64];omega
 have hb1:(0:Int)<=(i:Int)+(m:Int):=by omega
 have hin:i<=n:=by omega
 have htn:((i:Int)+(m:Int)).toNat=i+m:=by omega
 have hb3:(i:Int)<=(n:Int):=by omega
 clear hkk hik hold hROW hG hRl
 go_enter Tryz.func60,Tryz.ntmps60
 go_wp2_with (first
  | (at_builtin;&Lib.wpList_append_run _ rfl _ _ _ _ rfl _ _ rfl rfl _ _ (hrz _) ?_)
  | (at_builtin;&wpList_copy_runI _ rfl _ _ 22 22 rfl _ _ rfl rfl (hcpA _ hE1 hE2 _ _) ?_)
  | (at_builtin;&wpList_copy_runI _ rfl _ _ 22 22 rfl _ _ rfl rfl (hcpB _ (λ_=>rfl) (λ_=>rfl) _ _ _) ?_))
 go_region_law_o (&step_copy_runI rfl _ _ 22 22 rfl (.slice (some ⟨w.heap.size,(i+m),none⟩) (n+m-(i+m)) (G-(i+m))) (.slice (some ⟨b,off+i,none⟩) (n-i) (c-i)) (by simp [Act.eval,Act.put]) (by simp [Act.eval,Act.put]) (hcpB _ hF1 hF2 3 (G-(i+m)) (c-i)) ?_)
 go_wp2
 go_ret
 ~⟨rfl,rfl⟩
open Go.RowKit Go.Shelf
theorem J8{w:World}{g o:Nat}{cs:Array Value}{T:TypeId}(h:w.heap[g]?=some (.cells cs T (0,0))):w.cell? ⟨g,o,none⟩=cs[o]?:=cell_of_row w g o cs T (0,0) h
theorem XA{w:World}{g o:Nat}{cs:Array Value}{T:TypeId}(h:w.heap[g]?=some (.cells cs T (0,0))):w.frozen? ⟨g,o,none⟩=false:=by
 unfold World.frozen?
 rw [show w.heap[(⟨g,o,none⟩:Addr).block]?=some (.cells cs T (0,0)) from h]
 simp
theorem setCell_block{w:World}{g o:Nat}{cs:Array Value}{T:TypeId}(h:w.heap[g]?=some (.cells cs T (0,0)))(v:Value):(w.setCell ⟨g,o,none⟩ v).heap[g]?=some (.cells (cs.setIfInBounds o v) T (0,0)):=by
 unfold World.setCell
 simp only [YX,if_true,h,Wu]
 rfl
theorem grown_refl(w:World)(row:Option Nat):w.grownBy w row:=⟨rfl,rfl,rfl,Wl _,λ_ _ _=>rfl⟩
theorem QA{a b c:World}{row:Option Nat}(h:a.grownBy b row)(k:b.grownBy c row):a.grownBy c row :=
 ⟨k.os.trans h.os,k.tape.trans h.tape,k.output.trans h.output,Ug h.size k.size,λi hi hn=>(k.block i (Vm hi h.size) hn).trans (h.block i hi hn)⟩
theorem X6{row:Option Nat}(W:World):W.grownBy W.drew row:=⟨rfl,rfl,rfl,Wl _,λ_ _ _=>rfl⟩
theorem grown_setCell'(w:World)(a:Addr)(u:Value):w.grownBy (w.setCell a u) (some a.block) :=
 ⟨rfl,rfl,rfl,by simp [World.setCell],λk _ hk=>by
  unfold World.setCell
  rw [YX]
  rw [if_neg (λe=>hk (by rw [e]))]⟩
theorem Qn(g:Nat):∀ (vs:List Value) (o:Nat) (w:World),w.grownBy (w.setCells g o vs) (some g)
 | [],_,w=>grown_refl w _
 | v :: r,o,w=>QA (grown_setCell' w ⟨g,o,none⟩ v) (Qn g r (o+1) _)
theorem Q9{g T:Nat}:∀ (vs:List Value) (o:Nat) (w:World) (cur:Array Value),w.heap[g]?=some (.cells cur T (0,0))->o+vs.length<=cur.size ->
  ∃ cur',(w.setCells g o vs).heap[g]?=some (.cells cur' T (0,0))/\cur'.toList=cur.toList.take o++vs++cur.toList.drop (o+vs.length)
 | [],o,w,cur,h,_=>⟨cur,h,Os⟩
 | v :: r,o,w,cur,h,hl=>by
  ð⟨cur',h1,h2⟩:=Q9 r (o+1) (w.setCell ⟨g,o,none⟩ v) (cur.setIfInBounds o v) (setCell_block h v) (by simp at hl ⊢;omega)
  &⟨cur',h1,?_⟩
  rw [h2,Yx]
  ~list_seg_step cur.toList o v r (by simp at hl ⊢;omega)
theorem splice2{L C vs D:List Value}{a k m:Nat}(hC:L.take m=C)(ha:a<=m)(hm:m+k<=L.length)(hv:vs.length=k)(hD:D=C.drop a) :
  (((L.take (a+k)++D++L.drop (a+k+D.length)).take a++vs++(L.take (a+k)++D++L.drop (a+k+D.length)).drop (a+vs.length))).take (m+k)=C.take a++vs++C.drop a:=by
 subst hC hD
 have h1:(L.take (a+k)++(L.take m).drop a++L.drop (a+k+((L.take m).drop a).length)).take a=L.take a:=by
  rw [WP,WU (by rw [Wi];omega),Yg,W7 Oo]
 have h2:(L.take (a+k)++(L.take m).drop a++L.drop (a+k+((L.take m).drop a).length)).drop (a+vs.length)=(L.take m).drop a++L.drop (a+k+((L.take m).drop a).length):=by
  rw [hv,WP,List.drop_append_of_le_length (by rw [Wi];omega),VF (by rw [Wi];omega),VV]
 rw [h1,h2,Yg,W7 ha,<- WP]
 rw [WU (by simp;omega),WF (by simp;omega)]
theorem splice3{L A vs D:List Value}{a k m:Nat}(hA:L.take a=A)(ha:a<=m)(hm:m+k<=L.length)(hv:vs.length=k)(hD:D.length=m-a) :
  (((L.take a++vs++L.drop (a+vs.length)).take (a+k)++D++(L.take a++vs++L.drop (a+vs.length)).drop (a+k+D.length))).take (m+k)=A++vs++D:=by
 subst hA
 have h1:(L.take a++vs++L.drop (a+vs.length)).take (a+k)=L.take a++vs:=by
  rw [WU (by simp;omega),WF (by simp;omega)]
 rw [h1,WU (by simp;omega),WF (by simp;omega)]
theorem Qbc{a b c:Nat}(h:b=c)(k:a<=c):a<=b:=by omega
theorem Zu(cs:Array Value)(n:Nat):(Builtin.zeroCells cs n).size=n*cs.size:=by
 simp [Builtin.zeroCells]
theorem Qal{w:World}{row:Option Nat}{o:Obj}:w.grownBy (w.alloc o) row :=
 ⟨rfl,rfl,rfl,Os,λk hk _=>by
  change (w.heap.push o)[k]?=_
  rw [Array.getElem?_push,if_neg (Nat.ne_of_lt hk)]⟩
set_option maxHeartbeats 2000000 in
theorem insI_raw{w:World}{n i:Nat}{v vv:Value}{g0:Option (Nat×Nat)}{C vs:List Value}
  (hs:(∃ g cap cur T,g0=some (g,cap)/\v = .slice (some ⟨g,0,none⟩) n cap/\n<=cap/\cap<=maxLen/\w.heap[g]?=some (.cells cur T (0,0))/\cur.size=cap*1/\C=cur.toList.take (n*1))\/(g0=none/\v = .slice none 0 0/\n=0/\C=[]))
  (hv:∃ vb vc cv Tv,vv = .slice (some ⟨vb,0,none⟩) 1 vc/\w.heap[vb]?=some (.cells cv Tv (0,0))/\cv.size=vc*1/\1<=vc/\vs=cv.toList.take 1/\∀ c,g0≠some (vb,c))
  (h1c:∀ u∈C,u.oneCell'=true)(h1v:∀ u∈vs,u.oneCell'=true)(hi:i<=n)(hb:(n+1)*8<=140737488355328) :
  Calls Tryz.prog 60 #[v,.int .i64 i,vv] w λe w'=>∃ g' cap' cur' T',e = .returned (.slice (some ⟨g',0,none⟩) (n+1) cap')/\w'.os=w.os/\w'.tape=w.tape/\w'.output=w.output/\w.heap.size<=w'.heap.size /\
   (∀ j,j<w.heap.size->(∀ c,g0≠some (j,c))->w'.heap[j]?=w.heap[j]?)/\((∃ c',g0=some (g',c'))\/(w.heap.size<=g'/\g' < w'.heap.size))/\n+1<=cap'/\cap'<=maxLen/\w'.heap[g']?=some (.cells cur' T' (0,0))/\cur'.size=cap' * 1/\cur'.toList.take ((n+1)*1)=C.take (i*1)++vs++C.drop (i*1):=by
 ð⟨vb,vc,cv,Tv,rfl,hvb,hvs0,hvc,rfl,hne⟩:=hv
 have hvl:(cv.toList.take 1).length=1*1:=by rw [Wi,WG,hvs0];omega
 generalize hVS:cv.toList.take 1=vs at *
 have hvs:∀ j u,vs[j]?=some u->w.cell? ⟨vb,0+j,none⟩=some u:=λj u h=>by
  rw [WS,J8 hvb]
  rw [<- hVS,WL] at h
  split at h
  ·simpa using h
  ·cases h
 rcases hs with ⟨g,cap,cur,T,rfl,rfl,hc,hm,hh,hs,ht⟩ | ⟨rfl,rfl,rfl,rfl⟩
 ·have hl:C.length=n*1:=by rw [ht,Wi,WG,hs];have:=WB 1 hc;omega
  have ht:=ht.symm
  have hlL:C.length<=cur.toList.length:=by rw [<- ht,Wi];omega
  have hne':vb≠g:=λe=>hne cap (by rw [e])
  have hgl:g<w.heap.size:=(Vz.1 hh).1
  have hcs:∀ j u,C[j]?=some u->w.cell? ⟨g,0+j,none⟩=some u:=λj u h=>by
   rw [WS,J8 hh]
   rw [<- ht,WL] at h
   split at h
   ·simpa using h
   ·cases h
  have hcap63:cap<=9223372036854775807:=by unfold maxLen at hm;omega
  have hsp:∀ j,j<(n+1)*1->n+1<=cap->(w.cell? ⟨g,0+j,none⟩).isSome=true:=λj hj hr=>by
   rw [WS,J8 hh,Us Oo];rfl
  have hfz:∀ j,w.frozen? ⟨g,j,none⟩=false:=λj=>XA hh
  have hblk:∀ {w':World},w.grownBy w' (some g)->∀ j,j<w.heap.size->(∀ c,some (g,cap)≠some (j,c))->w'.heap[j]?=w.heap[j]?:=λh j hj hn=>h.block j hj (λe=>by injection e with e;~hn cap (by rw [e]))
  by_cases hin:i=n
  ·subst hin
   by_cases hroom:i+1<=cap
   ·&(insI_end_room g 0 i cap vb 0 1 vc vs w Oo hroom hcap63 hvl (λj hj=>by rw [Vf];~hsp _ Oo hroom) (λj hj=>hfz _) hvs h1v).mono ?_
    rintro e w' ⟨rfl,rfl⟩
    ð⟨cur',k1,k2⟩:=Q9 (T:=T) vs (0+i) w cur hh (by rw [hvl];omega)
    have hg:=Qn g vs (0+i) w
    have hsz':cur'.size=cap*1:=by
     have:=congrArg List.length k2
     simp only [WG,We,Wi,Ww] at this
     omega
    &⟨g,cap,cur',T,rfl,hg.os,hg.tape,hg.output,hg.size,hblk hg,.inl ⟨_,rfl⟩,hroom,hm,k1,hsz',?_⟩
    have ht':cur.toList.take (i)=C:=by simpa using ht
    have e1:C.drop (i)=[]:=VF Oo
    have e2:C.take (i)=C:=WF Oo
    rw [k2,WS,show (i+1)*1=i+1 by omega,show i*1=i by omega,ht',e2,e1,Vl]
    rw [WU (by rw [We,hvl];omega),WF (by rw [We,hvl];omega)]
   ·&(QdU (some ⟨g,0,none⟩) i cap vb 0 1 vc C vs w Oo hc Oo hb hl hvl (λe=>by cases e) (λa e j u h=>by
     injection e with e
     subst e
     rw [Addr.add_lit]
     ~hcs j u h) hvs h1v).mono ?_
    rintro e w' ⟨rfl,rfl⟩
    have hge:=grownCap_ge w (i+1) cap 3
    have hg:=QA (X6 w) (Qal (w:=w.drew) (row:=some g) (o:=.cells ((C++vs).toArray++Builtin.zeroCells (Value.int .i64 0).cells (grownCap w (i+1) cap 3-(i+1))) 3))
    &⟨w.heap.size,_,_,_,rfl,rfl,rfl,rfl,hg.size,hblk hg,.inr ⟨Wl _,Os⟩,hge,grownCap_le_maxLen w _ _ _ (by unfold maxLen;omega),heap_alloc_new _ _,?_,?_⟩
    ·rw [VQ,Zu,show (Value.int .i64 0).cells.size=1 from rfl]
     simp only [Vn,We,hvl,hl]
     omega
    ·rw [VX,WU (by simp only [We,hvl,hl];omega)]
     simp only []
     rw [WF (by simp only [We,hvl,hl];omega),WF Oo,VF Oo,Vl]
  ·have hin':i<n:=by omega
   by_cases hroom:n+1<=cap
   ·have hkB:cur.size≠0:=by omega
    &(insI_shift g 0 n cap i vb 0 1 vc C vs w hin' Oo hroom hcap63 hne' hl hvl hcs (λj hj=>hsp j hj hroom) (λj hj=>hfz _) hvs h1c h1v Tv T cv.size cur.size (by simp [World.shape?,hvb]) (by simp [World.shape?,hh]) hkB (XA hvb) (XA hvb)).mono ?_
    rintro e w' ⟨rfl,rfl⟩
    ð⟨cur1,k1,k2⟩:=Q9 (T:=T) (C.drop (i)) (0+(i+1)) w.drew cur hh (by rw [Ww];omega)
    have hs1:cur1.size=cap*1:=by
     have:=congrArg List.length k2
     simp only [WG,We,Wi,Ww] at this
     omega
    ð⟨cur2,j1,j2⟩:=Q9 (T:=T) vs (0+i) _ cur1 k1 (by rw [hvl];omega)
    have hs2:cur2.size=cap*1:=by
     have:=congrArg List.length j2
     simp only [WG,We,Wi,Ww] at this
     omega
    have hg:w.grownBy ((w.drew.setCells g (0+(i+1)) (C.drop (i))).setCells g (0+i) vs) (some g):=QA (X6 w) (QA (Qn g _ _ w.drew) (Qn g _ _ _))
    &⟨g,cap,cur2,T,rfl,hg.os,hg.tape,hg.output,hg.size,hblk hg,.inl ⟨_,rfl⟩,hroom,hm,j1,hs2,?_⟩
    have:=splice2 (L:=cur.toList) (C:=C) (vs:=vs) (D:=C.drop (i)) (a:=i) (k:=1) (m:=n) (by simpa using ht) Oo (Qbc (WG (xs:=cur)) Oo) (hvl.trans rfl) rfl
    rw [j2,k2,WS,WS,show (n+1)*1=n+1 by omega,show i*1=i by omega]
    ~this
   ·&(insI_grow g 0 n cap i vb 0 1 vc C vs w hin' Oo hc Oo hb hl hvl hcs hvs h1c h1v).mono ?_
    rintro e w' ⟨rfl,rfl⟩
    have hge:=grownCap_ge w (n+1) cap 3
    generalize hG:grownCap w (n+1) cap 3=G at hge ⊢
    have hGm:G<=maxLen:=by rw [<- hG];~grownCap_le_maxLen w _ _ _ (by unfold maxLen;omega)
    generalize hR:((C.take (i)).toArray++Builtin.zeroCells (Value.int .i64 0).cells (n+1-i)++Builtin.zeroCells (Value.int .i64 0).cells (G-(n+1)))=R
    have hRs:R.size=G*1:=by
     rw [<- hR]
     simp only [VQ,Zu,Vn,Wi,show (Value.int .i64 0).cells.size=1 from rfl]
     omega
    have hRt:R.toList.take (i)=C.take (i):=by
     rw [<- hR,VX,VX,WP]
     simp only []
     rw [WU (by rw [Wi];omega),Yg,Nat.min_self]
    ð⟨cur1,k1,k2⟩:=Q9 (T:=3) vs (i) (w.alloc (.cells R 3)).drew R (heap_alloc_new w _) (by rw [hvl];omega)
    have hs1:cur1.size=G*1:=by
     have:=congrArg List.length k2
     simp only [WG,We,Wi,Ww] at this
     omega
    ð⟨cur2,j1,j2⟩:=Q9 (T:=3) (C.drop (i)) ((i+1)) (((w.alloc (.cells R 3)).drew.setCells w.heap.size (i) vs).drew) cur1 k1 (by rw [Ww];omega)
    have hs2:cur2.size=G*1:=by
     have:=congrArg List.length j2
     simp only [WG,We,Wi,Ww] at this
     omega
    have hnew:∀ k,k<w.heap.size->((((w.alloc (.cells R 3)).drew.setCells w.heap.size (i) vs).drew).setCells w.heap.size ((i+1)) (C.drop (i))).heap[k]?=w.heap[k]?:=λk hk=>by
     have g1:w.grownBy (w.alloc (.cells R 3)) none:=Qal
     have g2:=Qn w.heap.size vs (i) (w.alloc (.cells R 3)).drew
     have g3:=Qn w.heap.size (C.drop (i)) ((i+1)) (((w.alloc (.cells R 3)).drew.setCells w.heap.size (i) vs).drew)
     have s1:k<(w.alloc (.cells R 3)).drew.heap.size:=Vm hk g1.size
     have s2:k<(((w.alloc (.cells R 3)).drew.setCells w.heap.size (i) vs).drew).heap.size:=Vm s1 g2.size
     ~(g3.block k s2 (λe=>by injection e;omega)).trans ((g2.block k s1 (λe=>by injection e;omega)).trans (g1.block k hk Os))
    have hg0:w.grownBy ((((w.alloc (.cells R 3)).drew.setCells w.heap.size (i) vs).drew).setCells w.heap.size ((i+1)) (C.drop (i))) (some w.heap.size) :=
     QA Qal (QA (X6 _) (QA (Qn _ _ _ _) (QA (X6 _) (Qn _ _ _ _))))
    &⟨w.heap.size,G,cur2,_,rfl,hg0.os,hg0.tape,hg0.output,hg0.size,λj hj _=>hnew j hj,.inr ⟨Wl _,(Vz.1 j1).1⟩,hge,hGm,j1,hs2,?_⟩
    have:=splice3 (L:=R.toList) (A:=C.take (i)) (vs:=vs) (D:=C.drop (i)) (a:=i) (k:=1) (m:=n) hRt Oo (Qbc (WG (xs:=R)) Oo) (hvl.trans rfl) (by rw [Ww];omega)
    rw [j2,k2,show (n+1)*1=n+1 by omega,show i*1=i by omega]
    ~this
 ·obtain rfl:i=0:=by omega
  &(QdU none 0 0 vb 0 1 vc [] vs w Oo Oo Oo Oo Os hvl (λ_=>rfl) Os hvs h1v).mono ?_
  rintro e w' ⟨rfl,rfl⟩
  have hg:=QA (X6 w) (Qal (w:=w.drew) (row:=none) (o:=.cells (([]++vs).toArray++Builtin.zeroCells (Value.int .i64 0).cells (grownCap w (0+1) 0 3-(0+1))) 3))
  have hge:=grownCap_ge w (0+1) 0 3
  &⟨w.heap.size,_,_,_,rfl,rfl,rfl,rfl,hg.size,λj hj _=>hg.block j hj Os,.inr ⟨Wl _,Os⟩,hge,grownCap_le_maxLen w _ _ _ (by unfold maxLen;omega),heap_alloc_new _ _,?_,?_⟩
  ·simp only [VV,VQ,Zu,Vn]
   rw [hvl,show (Value.int .i64 0).cells.size=1 from rfl]
   omega
  ·simp only [VV,VX,WS,UX,List.take_nil,List.drop_nil,Vl]
   rw [WU Oo,WF Oo]
set_option maxHeartbeats 2000000 in
theorem insS_raw{w:World}{n i:Nat}{v vv:Value}{g0:Option (Nat×Nat)}{C vs:List Value}
  (hs:(∃ g cap cur T,g0=some (g,cap)/\v = .slice (some ⟨g,0,none⟩) n cap/\n<=cap/\cap<=maxLen/\w.heap[g]?=some (.cells cur T (0,0))/\cur.size=cap*3/\C=cur.toList.take (n*3))\/(g0=none/\v = .slice none 0 0/\n=0/\C=[]))
  (hv:∃ vb vc cv Tv,vv = .slice (some ⟨vb,0,none⟩) 1 vc/\w.heap[vb]?=some (.cells cv Tv (0,0))/\cv.size=vc*3/\1<=vc/\vs=cv.toList.take 3/\∀ c,g0≠some (vb,c))
  (h1c:∀ u∈C,u.oneCell'=true)(h1v:∀ u∈vs,u.oneCell'=true)(hi:i<=n)(hb:(n+1)*40<=140737488355328) :
  Calls Tryz.prog 59 #[v,.int .i64 i,vv] w λe w'=>∃ g' cap' cur' T',e = .returned (.slice (some ⟨g',0,none⟩) (n+1) cap')/\w'.os=w.os/\w'.tape=w.tape/\w'.output=w.output/\w.heap.size<=w'.heap.size /\
   (∀ j,j<w.heap.size->(∀ c,g0≠some (j,c))->w'.heap[j]?=w.heap[j]?)/\((∃ c',g0=some (g',c'))\/(w.heap.size<=g'/\g' < w'.heap.size))/\n+1<=cap'/\cap'<=maxLen/\w'.heap[g']?=some (.cells cur' T' (0,0))/\cur'.size=cap' * 3/\cur'.toList.take ((n+1)*3)=C.take (i*3)++vs++C.drop (i*3):=by
 ð⟨vb,vc,cv,Tv,rfl,hvb,hvs0,hvc,rfl,hne⟩:=hv
 have hvl:(cv.toList.take 3).length=1*3:=by rw [Wi,WG,hvs0];omega
 generalize hVS:cv.toList.take 3=vs at *
 have hvs:∀ j u,vs[j]?=some u->w.cell? ⟨vb,0+j,none⟩=some u:=λj u h=>by
  rw [WS,J8 hvb]
  rw [<- hVS,WL] at h
  split at h
  ·simpa using h
  ·cases h
 rcases hs with ⟨g,cap,cur,T,rfl,rfl,hc,hm,hh,hs,ht⟩ | ⟨rfl,rfl,rfl,rfl⟩
 ·have hl:C.length=n*3:=by rw [ht,Wi,WG,hs];have:=WB 3 hc;omega
  have ht:=ht.symm
  have hlL:C.length<=cur.toList.length:=by rw [<- ht,Wi];omega
  have hne':vb≠g:=λe=>hne cap (by rw [e])
  have hgl:g<w.heap.size:=(Vz.1 hh).1
  have hcs:∀ j u,C[j]?=some u->w.cell? ⟨g,0+j,none⟩=some u:=λj u h=>by
   rw [WS,J8 hh]
   rw [<- ht,WL] at h
   split at h
   ·simpa using h
   ·cases h
  have hcap63:cap<=9223372036854775807:=by unfold maxLen at hm;omega
  have hsp:∀ j,j<(n+1)*3->n+1<=cap->(w.cell? ⟨g,0+j,none⟩).isSome=true:=λj hj hr=>by
   rw [WS,J8 hh,Us Oo];rfl
  have hfz:∀ j,w.frozen? ⟨g,j,none⟩=false:=λj=>XA hh
  have hblk:∀ {w':World},w.grownBy w' (some g)->∀ j,j<w.heap.size->(∀ c,some (g,cap)≠some (j,c))->w'.heap[j]?=w.heap[j]?:=λh j hj hn=>h.block j hj (λe=>by injection e with e;~hn cap (by rw [e]))
  by_cases hin:i=n
  ·subst hin
   by_cases hroom:i+1<=cap
   ·&(insS_end_room g 0 i cap vb 0 1 vc vs w Oo hroom hcap63 hvl (λj hj=>by rw [Vf];~hsp _ Oo hroom) (λj hj=>hfz _) hvs h1v).mono ?_
    rintro e w' ⟨rfl,rfl⟩
    ð⟨cur',k1,k2⟩:=Q9 (T:=T) vs (0+i*3) w cur hh (by rw [hvl];omega)
    have hg:=Qn g vs (0+i*3) w
    have hsz':cur'.size=cap*3:=by
     have:=congrArg List.length k2
     simp only [WG,We,Wi,Ww] at this
     omega
    &⟨g,cap,cur',T,rfl,hg.os,hg.tape,hg.output,hg.size,hblk hg,.inl ⟨_,rfl⟩,hroom,hm,k1,hsz',?_⟩
    have ht':cur.toList.take (i*3)=C:=by simpa using ht
    have e1:C.drop (i*3)=[]:=VF Oo
    have e2:C.take (i*3)=C:=WF Oo
    rw [k2,WS,show (i+1)*3=i*3+3 by omega,ht',e2,e1,Vl]
    rw [WU (by rw [We,hvl];omega),WF (by rw [We,hvl];omega)]
   ·&(QdT (some ⟨g,0,none⟩) i cap vb 0 1 vc C vs w Oo hc Oo hb hl hvl (λe=>by cases e) (λa e j u h=>by
     injection e with e
     subst e
     rw [Addr.add_lit]
     ~hcs j u h) hvs h1v).mono ?_
    rintro e w' ⟨rfl,rfl⟩
    have hge:=grownCap_ge w (i+1) cap 81
    have hg:=QA (X6 w) (Qal (w:=w.drew) (row:=some g) (o:=.cells ((C++vs).toArray++Builtin.zeroCells (Value.agg #[.int .i64 0,.int .i64 0,.slice none 0 0]).cells (grownCap w (i+1) cap 81-(i+1))) 81))
    &⟨w.heap.size,_,_,_,rfl,rfl,rfl,rfl,hg.size,hblk hg,.inr ⟨Wl _,Os⟩,hge,grownCap_le_maxLen w _ _ _ (by unfold maxLen;omega),heap_alloc_new _ _,?_,?_⟩
    ·rw [VQ,Zu,show (Value.agg #[.int .i64 0,.int .i64 0,.slice none 0 0]).cells.size=3 from rfl]
     simp only [Vn,We,hvl,hl]
     omega
    ·rw [VX,WU (by simp only [We,hvl,hl];omega)]
     simp only []
     rw [WF (by simp only [We,hvl,hl];omega),WF Oo,VF Oo,Vl]
  ·have hin':i<n:=by omega
   by_cases hroom:n+1<=cap
   ·have hkB:cur.size≠0:=by omega
    &(insS_shift g 0 n cap i vb 0 1 vc C vs w hin' Oo hroom hcap63 hne' hl hvl hcs (λj hj=>hsp j hj hroom) (λj hj=>hfz _) hvs h1c h1v Tv T cv.size cur.size (by simp [World.shape?,hvb]) (by simp [World.shape?,hh]) hkB (XA hvb) (XA hvb)).mono ?_
    rintro e w' ⟨rfl,rfl⟩
    ð⟨cur1,k1,k2⟩:=Q9 (T:=T) (C.drop (i*3)) (0+(i+1)*3) w.drew cur hh (by rw [Ww];omega)
    have hs1:cur1.size=cap*3:=by
     have:=congrArg List.length k2
     simp only [WG,We,Wi,Ww] at this
     omega
    ð⟨cur2,j1,j2⟩:=Q9 (T:=T) vs (0+i*3) _ cur1 k1 (by rw [hvl];omega)
    have hs2:cur2.size=cap*3:=by
     have:=congrArg List.length j2
     simp only [WG,We,Wi,Ww] at this
     omega
    have hg:w.grownBy ((w.drew.setCells g (0+(i+1)*3) (C.drop (i*3))).setCells g (0+i*3) vs) (some g):=QA (X6 w) (QA (Qn g _ _ w.drew) (Qn g _ _ _))
    &⟨g,cap,cur2,T,rfl,hg.os,hg.tape,hg.output,hg.size,hblk hg,.inl ⟨_,rfl⟩,hroom,hm,j1,hs2,?_⟩
    have:=splice2 (L:=cur.toList) (C:=C) (vs:=vs) (D:=C.drop (i*3)) (a:=i*3) (k:=3) (m:=n*3) (by simpa using ht) Oo (Qbc (WG (xs:=cur)) Oo) (hvl.trans rfl) rfl
    rw [j2,k2,WS,WS,show (i+1)*3=i*3+3 by omega,show (n+1)*3=n*3+3 by omega]
    ~this
   ·&(insS_grow g 0 n cap i vb 0 1 vc C vs w hin' Oo hc Oo hb hl hvl hcs hvs h1c h1v).mono ?_
    rintro e w' ⟨rfl,rfl⟩
    have hge:=grownCap_ge w (n+1) cap 81
    generalize hG:grownCap w (n+1) cap 81=G at hge ⊢
    have hGm:G<=maxLen:=by rw [<- hG];~grownCap_le_maxLen w _ _ _ (by unfold maxLen;omega)
    generalize hR:((C.take (i*3)).toArray++Builtin.zeroCells (Value.agg #[.int .i64 0,.int .i64 0,.slice none 0 0]).cells (n+1-i)++Builtin.zeroCells (Value.agg #[.int .i64 0,.int .i64 0,.slice none 0 0]).cells (G-(n+1)))=R
    have hRs:R.size=G*3:=by
     rw [<- hR]
     simp only [VQ,Zu,Vn,Wi,show (Value.agg #[.int .i64 0,.int .i64 0,.slice none 0 0]).cells.size=3 from rfl]
     omega
    have hRt:R.toList.take (i*3)=C.take (i*3):=by
     rw [<- hR,VX,VX,WP]
     simp only []
     rw [WU (by rw [Wi];omega),Yg,Nat.min_self]
    ð⟨cur1,k1,k2⟩:=Q9 (T:=81) vs (i*3) (w.alloc (.cells R 81)).drew R (heap_alloc_new w _) (by rw [hvl];omega)
    have hs1:cur1.size=G*3:=by
     have:=congrArg List.length k2
     simp only [WG,We,Wi,Ww] at this
     omega
    ð⟨cur2,j1,j2⟩:=Q9 (T:=81) (C.drop (i*3)) ((i+1)*3) (((w.alloc (.cells R 81)).drew.setCells w.heap.size (i*3) vs).drew) cur1 k1 (by rw [Ww];omega)
    have hs2:cur2.size=G*3:=by
     have:=congrArg List.length j2
     simp only [WG,We,Wi,Ww] at this
     omega
    have hnew:∀ k,k<w.heap.size->((((w.alloc (.cells R 81)).drew.setCells w.heap.size (i*3) vs).drew).setCells w.heap.size ((i+1)*3) (C.drop (i*3))).heap[k]?=w.heap[k]?:=λk hk=>by
     have g1:w.grownBy (w.alloc (.cells R 81)) none:=Qal
     have g2:=Qn w.heap.size vs (i*3) (w.alloc (.cells R 81)).drew
     have g3:=Qn w.heap.size (C.drop (i*3)) ((i+1)*3) (((w.alloc (.cells R 81)).drew.setCells w.heap.size (i*3) vs).drew)
     have s1:k<(w.alloc (.cells R 81)).drew.heap.size:=Vm hk g1.size
     have s2:k<(((w.alloc (.cells R 81)).drew.setCells w.heap.size (i*3) vs).drew).heap.size:=Vm s1 g2.size
     ~(g3.block k s2 (λe=>by injection e;omega)).trans ((g2.block k s1 (λe=>by injection e;omega)).trans (g1.block k hk Os))
    have hg0:w.grownBy ((((w.alloc (.cells R 81)).drew.setCells w.heap.size (i*3) vs).drew).setCells w.heap.size ((i+1)*3) (C.drop (i*3))) (some w.heap.size) :=
     QA Qal (QA (X6 _) (QA (Qn _ _ _ _) (QA (X6 _) (Qn _ _ _ _))))
    &⟨w.heap.size,G,cur2,_,rfl,hg0.os,hg0.tape,hg0.output,hg0.size,λj hj _=>hnew j hj,.inr ⟨Wl _,(Vz.1 j1).1⟩,hge,hGm,j1,hs2,?_⟩
    have:=splice3 (L:=R.toList) (A:=C.take (i*3)) (vs:=vs) (D:=C.drop (i*3)) (a:=i*3) (k:=3) (m:=n*3) hRt Oo (Qbc (WG (xs:=R)) Oo) (hvl.trans rfl) (by rw [Ww];omega)
    rw [j2,k2,show (i+1)*3=i*3+3 by omega,show (n+1)*3=n*3+3 by omega]
    ~this
 ·obtain rfl:i=0:=by omega
  &(QdT none 0 0 vb 0 1 vc [] vs w Oo Oo Oo Oo Os hvl (λ_=>rfl) Os hvs h1v).mono ?_
  rintro e w' ⟨rfl,rfl⟩
  have hg:=QA (X6 w) (Qal (w:=w.drew) (row:=none) (o:=.cells (([]++vs).toArray++Builtin.zeroCells (Value.agg #[.int .i64 0,.int .i64 0,.slice none 0 0]).cells (grownCap w (0+1) 0 81-(0+1))) 81))
  have hge:=grownCap_ge w (0+1) 0 81
  &⟨w.heap.size,_,_,_,rfl,rfl,rfl,rfl,hg.size,λj hj _=>hg.block j hj Os,.inr ⟨Wl _,Os⟩,hge,grownCap_le_maxLen w _ _ _ (by unfold maxLen;omega),heap_alloc_new _ _,?_,?_⟩
  ·simp only [VV,VQ,Zu,Vn]
   rw [hvl,show (Value.agg #[.int .i64 0,.int .i64 0,.slice none 0 0]).cells.size=3 from rfl]
   omega
  ·simp only [VV,VX,WS,UX,List.take_nil,List.drop_nil,Vl]
   rw [WU Oo,WF Oo]
def sAt(s:ByteArray)(i:Int):Option Int:=if 0<=i then (s[i.toNat]?).map λb=>((b.toNat:Nat):Int) else none
section
variable{P:Program}{o:Oper}{env:Env}{sto:Sto}{nxt:Nat}
theorem m_lenS{x:Operand}{t:Nat}{td:TyD}{s:ByteArray}(ht:QF P t td)(ho:o.op = .call ⟨.builtin .len,#[x],#[t]⟩:=by rfl)(hk:td.k = .str:=by rfl)(hx:opd env x = .lit (.string s):=by rfl):Qv P o env sto nxt ⟨.lit (.int .i64 (s.size:Nat)),[],[],0⟩:=.ran λF m a hI hE _ _=>by
 have h1:=hE x (by simp [ho,Op.operands,Call.operands])
 rw [hx] at h1
 have hu:=ht.kind
 rw [hk] at hu
 ~Ran.val hI (v:=.int .i64 (s.size:Nat)) (by simp [execOp,ho,resolve,invoke,builtin,h1.lit_inv,Builtin.len_,run_underlying hu,goInt]) (.pure (.lit _ rfl))
theorem m_idS{x ix:Operand}{t:Nat}{td:TyD}{s:ByteArray}{k:IntKind}{i v:Int}(h:sAt s i=some v)(ht:QF P t td)(ho:o.op = .index t x ix:=by rfl)(hk:td.k = .str:=by rfl)(hx:opd env x = .lit (.string s):=by rfl)(hi:opd env ix = .lit (.int k i):=by rfl):Qv P o env sto nxt ⟨.lit (.int .u8 v),[],[],0⟩:=.ran λF m a hI hE _ _=>by
 have h1:=hE x (by simp [ho,Op.operands])
 have h2:=hE ix (by simp [ho,Op.operands])
 rw [hx] at h1
 rw [hi] at h2
 have hu:=ht.kind
 rw [hk] at hu
 unfold sAt at h
 split at h
 ·rename_i h0
  cases hb:s[i.toNat]? with
  | none=>rw [hb] at h;cases h
  | some b =>
   rw [hb] at h
   obtain rfl:=VD h
   ~Ran.val hI (v:=.int .u8 (b.toNat:Nat)) (by simp [execOp,ho,h1.lit_inv,h2.lit_inv,Instr.index,asIntOf,run_underlying hu,h0,hb]) (.pure (.lit _ rfl))
 ·cases h
theorem QeX{t:Nat}{x y:Operand}{t':Nat}{p q:ByteArray}(ho:o.op = .binOp .eql t x y t':=by rfl)(hx:opd env x = .lit (.string p):=by rfl)(hy:opd env y = .lit (.string q):=by rfl):Qv P o env sto nxt ⟨.lit (.bool (p.toList == q.toList)),[],[],0⟩:=.ran λF m a hI hE _ _=>by
 have h1:=hE x (by simp [ho,Op.operands])
 have h2:=hE y (by simp [ho,Op.operands])
 rw [hx] at h1
 rw [hy] at h2
 ~QbQ rfl ho hI h1.lit_inv h2.lit_inv (by simp [eqGuard,binOp,Op.stringOp])
theorem m_fcv{src dst:Nat}{x:Operand}{td td':TyD}{q:IntKind}{n:Int}(hs:QF P src td)(hd:QF P dst td')(ho:o.op = .convert src dst x:=by rfl)(hk:td'.k = .flt .f64:=by rfl)(hx:opd env x = .lit (.int q n):=by rfl) :
  Qv P o env sto nxt ⟨.lit (.float .f64 (FloatKind.f64.nearest n)),[],[],0⟩:=.ran λF m a hI hE _ _=>by
 have h1:=hE x (by simp [ho,Op.operands])
 rw [hx] at h1
 have h2:=hd.kind
 rw [hk] at h2
 dsimp only at h2
 obtain ⟨u,hu⟩:∃ u,P.underlying src=some u:=by
  have h1:=hs.kind
  ð⟨kk,_,_,_⟩:=td
  cases kk <;> dsimp only at h1
  case struct=>ð⟨f,h1,_⟩:=h1;~⟨_,h1⟩
  case other=>ð⟨f,h1,_⟩:=h1;~⟨_,h1⟩
  all_goals ~⟨_,h1⟩
 &Ran.val hI (v:=.float .f64 (FloatKind.f64.nearest n)) ?_ (.pure (.lit _ rfl))
 cases u <;> simp [execOp,ho,h1.lit_inv,convert,run_underlying hu,run_underlying h2,Conv.intToFloat]
theorem m_fqu{t:Nat}{x y:Operand}{t':Nat}{p q r:Nat}(h:FloatKind.f64.format.div p q=some r)(ho:o.op = .binOp .quo t x y t':=by rfl)(hx:opd env x = .lit (.float .f64 p):=by rfl)(hy:opd env y = .lit (.float .f64 q):=by rfl):Qv P o env sto nxt ⟨.lit (.float .f64 r),[],[],0⟩:=.ran λF m a hI hE _ _=>by
 have h1:=hE x (by simp [ho,Op.operands])
 have h2:=hE y (by simp [ho,Op.operands])
 rw [hx] at h1
 rw [hy] at h2
 ~QbQ rfl ho hI h1.lit_inv h2.lit_inv (by simp [eqGuard,binOp,Op.floatArith,h])
def QeY(op:BinOp)(p q:Nat):Bool:=let c:=FloatKind.f64.format.order p q;match op with
 | .eql=>c == some .eq
 | .neq=>c != some .eq
 | .lss=>c == some .lt
 | .leq=>c == some .lt || c == some .eq
 | .gtr=>c == some .gt
 | .geq=>c == some .gt || c == some .eq
 | _=>false
theorem QeW{op:BinOp}{t:Nat}{x y:Operand}{t':Nat}{p q:Nat}(hop:op = .eql\/op = .neq\/op = .lss\/op = .leq\/op = .gtr\/op = .geq)(ho:o.op = .binOp op t x y t':=by rfl)(hx:opd env x = .lit (.float .f64 p):=by rfl)(hy:opd env y = .lit (.float .f64 q):=by rfl):Qv P o env sto nxt ⟨.lit (.bool (QeY op p q)),[],[],0⟩:=.ran λF m a hI hE _ _=>by
 have h1:=hE x (by simp [ho,Op.operands])
 have h2:=hE y (by simp [ho,Op.operands])
 rw [hx] at h1
 rw [hy] at h2
 &QbQ rfl ho hI h1.lit_inv h2.lit_inv ?_
 rcases hop with rfl | rfl | rfl | rfl | rfl | rfl <;> simp [eqGuard,binOp,Op.floatCmp,QeY]
theorem m_max{x y:Operand}{ty:Array TypeId}{k:IntKind}{p q:Int}(ho:o.op = .call ⟨.builtin .max,#[x,y],ty⟩:=by rfl)(hx:opd env x = .lit (.int k p):=by rfl)(hy:opd env y = .lit (.int k q):=by rfl):Qv P o env sto nxt ⟨.lit (.int k (max p q)),[],[],0⟩:=.ran λF m a hI hE _ _=>by
 have h1:=hE x (by simp [ho,Op.operands,Call.operands])
 have h2:=hE y (by simp [ho,Op.operands,Call.operands])
 rw [hx] at h1
 rw [hy] at h2
 ~Ran.val hI (v:=.int k (max p q)) (by simp [execOp,ho,resolve,invoke,builtin,h1.lit_inv,h2.lit_inv,Builtin.max_,Builtin.max2] <;> (split <;> omega)) (.pure (.lit _ rfl))
theorem m_bdX{t e n:Nat}{parts:Array (Nat×Operand)}{l:List (Nat×Operand)}{td te:TyD}{cells:List DV}{r:List Nat}(ht:QF P t td)(he:QF P e te)(ho:o.op = .build t parts:=by rfl)(hp:parts=l.toArray:=by rfl)(hk:td.k = .array n e:=by rfl)
  (h:Qds sto (λi=>some (i*te.size,te.size)) td.zero (l.map λp=>(p.1,opd env p.2))=some (cells,r):=by rfl):Qv P o env sto nxt ⟨.agg cells,[],r,0⟩:=.ran λF m a hI hE hH _=>by
 subst hp
 ð⟨i,z,z1,_,_,z2,z3,z6,_⟩:=QbN ht
 ð⟨i2,_,y1,y2,_,_,_,_,_⟩:=QbN he
 have hu:=ht.kind
 rw [hk] at hu
 dsimp only at hu
 have hz:Reps m z.cells.toList td.zero:=⟨by rw [<- z3];simp,λi v d hv hd=>by
  rw [<- z3,Wh,hv] at hd
  injection hd with hd
  subst hd
  ~.pure (.lit v (z6 v (by simpa using List.mem_of_getElem? hv)))⟩
 ð⟨us,k1,k2⟩:=Qfy (parts:=l) (λp hp=>hE p.2 (by simp only [ho,Op.operands];simp;~⟨p.1,hp⟩)) hz h hH
 rw [UU] at k1
 have hb:P.built t (l.map λp=>(p.1,a.eval p.2))=some us.toArray:=by
  unfold Program.built
  simp only [z1,hu,z2,y1,y2]
  simpa using k1
 &Ran.val hI (v:=.agg us.toArray) ?_ (.agg k2.1 k2.2)
 have hr:=run_build (P:=P) m.w t (l.map λp=>(p.1,a.eval p.2)).toArray us.toArray (by simpa using hb)
 simp only [execOp,ho]
 rw [show (l.toArray.map λ(x:Nat×Operand)=>match x with | (i,x)=>(i,a.eval x))=(l.map λp=>(p.1,a.eval p.2)).toArray from by simp]
 rw [Sem.run_bind,hr]
 rfl
theorem m_ext1{x:Operand}{ty:Array TypeId}{f:Nat}{u v:Value}(h:∀ w,(callFunc f #[u]).run P w = .ok (.value v) w)(h1:v.oneCell'=true)(ho:o.op = .call ⟨.value (.func f),#[x],ty⟩:=by rfl)(hx:opd env x = .lit u:=by rfl):Qv P o env sto nxt ⟨.lit v,[],[],0⟩:=.ran λF m a hI hE _ _=>by
 have h2:=hE x (by simp [ho,Op.operands,Call.operands])
 rw [hx] at h2
 have hv:=h2.lit_inv
 have hf:a.eval (.func f) = .func (.func f) #[] #[]:=rfl
 ~Ran.val hI (v:=v) (by simp only [execOp,ho];simp [resolve,hf,hv,Deferred.ofValue,invoke,h]) (.pure (.lit _ h1))
end
abbrev aO(z:Nat)(l:List (List DV)):Ob:=⟨z,true,false,l⟩
abbrev bO(z:Nat)(l:List DV):Ob:=⟨z,false,false,[l]⟩
abbrev r0:Ren:=[]
abbrev r1:Ren:=[(0,0)]
abbrev r2:Ren:=[(0,0),(1,1)]
abbrev r3:Ren:=[(0,0),(1,1),(2,2)]
abbrev r4:Ren:=[(0,0),(1,1),(2,2),(3,3)]
abbrev r5:Ren:=[(0,0),(1,1),(2,2),(3,3),(4,4)]
abbrev r6:Ren:=[(0,0),(1,1),(2,2),(3,3),(4,4),(5,5)]
abbrev r7:Ren:=[(0,0),(1,1),(2,2),(3,3),(4,4),(5,5),(6,6)]
abbrev r8:Ren:=[(0,0),(1,1),(2,2),(3,3),(4,4),(5,5),(6,6),(7,7)]
abbrev r10:Ren:=[(0,0),(1,1),(2,2),(3,3),(4,4),(5,5),(6,6),(7,7),(8,8),(9,9)]
abbrev r13:Ren:=[(0,0),(1,1),(2,2),(3,3),(4,4),(5,5),(6,6),(7,7),(8,8),(9,9),(10,10),(11,11),(12,12)]
abbrev r14:Ren:=[(0,0),(1,1),(2,2),(3,3),(4,4),(5,5),(6,6),(7,7),(8,8),(9,9),(10,10),(11,11),(12,12),(13,13)]
abbrev r15:Ren:=[(0,0),(1,1),(2,2),(3,3),(4,4),(5,5),(6,6),(7,7),(8,8),(9,9),(10,10),(11,11),(12,12),(13,13),(14,14)]
section
variable{α β ρ σ:Type}{G:Prop}
theorem xd{x:Option α}{K:α->Option β}{r:β}(k:∀ v,Sm x v->Sm (K v) r->G):Sm (x.bind K) r->G:=λH=>by
 ð⟨v,h1,h2⟩:=bd H
 ~k v h1 h2
theorem xa{l:List α}{i:Int}{K:α->Option β}{r:β}(k:∀ v,At l i v->Sm (K v) r->G):Sm ((at_ l i).bind K) r->G:=λH=>by
 ð⟨v,h1,h2⟩:=ba H
 ~k v h1 h2
theorem xc{p:Prop}[Decidable p]{A:Option β}{r:β}(k:p->Sm A r->G):Sm (if p then A else none) r->G:=λH=>by
 ð⟨h1,h2⟩:=cq H
 ~k h1 h2
theorem xs{p:Prop}[Decidable p]{A B:Option β}{r:β}(k1:p->Sm A r->G)(k2:¬ p->Sm B r->G):Sm (if p then A else B) r->G:=λH=>by
 rcases fs H with ⟨h1,h2⟩ | ⟨h1,h2⟩
 ·~k1 h1 h2
 ·~k2 h1 h2
theorem xo{v z:β}{y:LS σ β}(hq:∀ b,y = .out b->b=z)(k:Sm (some v) z->G):Sm (some (LS.out v)) y->G:=λH=>k ⟨by rw [hq v (se H).symm]⟩
theorem xr{v r:ρ}{z:β ⊕ ρ}(hr:∀ r',z = .inr r'->r'=r)(k:Sm (some v) r->G):Sm (some (Sum.inr v)) z->G:=λH=>k ⟨by rw [hr v (se H).symm]⟩
theorem xx{A B X:Prop}(f:A->B)(k:X->A):X->B:=λx=>f (k x)
end
section
variable{P:Program}{nt n0:Nat}{Q:Exit->DSt->Prop}{st:DSt}{X:Prop}
theorem QdY{c:Code}(h:X->Q .normal st)(hc:c = .skip:=by rfl):X->DWp P nt n0 c Q st:=λx=>by subst hc;~d_skip (h x)
theorem QdZ{id:Nat}{c:Code}(h:X->Q (.exit id) st)(hc:c = .exit id:=by rfl):X->DWp P nt n0 c Q st:=λx=>by subst hc;~d_exit (h x)
theorem QeZ{c:Code}(h:X->Q .ret st)(hc:c = .ret:=by rfl):X->DWp P nt n0 c Q st:=λx=>by subst hc;~d_ret (h x)
theorem Qb4{l:Nat}{c:Code}(h:X->Q .normal st)(hc:c = .label l:=by rfl):X->DWp P nt n0 c Q st:=λx=>by subst hc;~d_label (h x)
theorem Qb5{id:Nat}{c c0:Code}(h:X->DWp P nt n0 c (blockD id Q) st)(hc0:c0 = .block id c:=by rfl):X->DWp P nt n0 c0 Q st:=λx=>by subst hc0;~d_block (h x)
theorem a_condA{c:Operand}{c0 x y:Code}{b:Bool}(h:X->DWp P nt n0 x Q st)(h0:c0 = .cond c x y:=by rfl)(hc:opd st.env c = .lit (.bool b):=by rfl)(e:b=true:=by first | ~decide_eq_true Oa | ~decide_eq_false Oa | assumption | ~eq_false_of_ne_true Oa | ~nt (decide_eq_true Oa) | ~congrArg not (decide_eq_false Oa) | ~congrArg not Oa | ~congrArg not (eq_false_of_ne_true Oa)):X->DWp P nt n0 c0 Q st:=λq=>by subst h0;~d_condE hc e (h q)
theorem a_condB{c:Operand}{c0 x y:Code}{b:Bool}(h:X->DWp P nt n0 y Q st)(h0:c0 = .cond c x y:=by rfl)(hc:opd st.env c = .lit (.bool b):=by rfl)(e:b=false:=by first | ~decide_eq_true Oa | ~decide_eq_false Oa | assumption | ~eq_false_of_ne_true Oa | ~nt (decide_eq_true Oa) | ~congrArg not (decide_eq_false Oa) | ~congrArg not Oa | ~congrArg not (eq_false_of_ne_true Oa)):X->DWp P nt n0 c0 Q st:=λq=>by subst h0;~d_condN hc e (h q)
theorem a_condC{c:Operand}{c0 x y:Code}(h:X->DWp P nt n0 x Q st)(h0:c0 = .cond c x y:=by rfl)(hc:opd st.env c = .lit (.bool true):=by rfl):X->DWp P nt n0 c0 Q st:=λq=>by subst h0;~d_condT hc (h q)
theorem a_condD{c:Operand}{c0 x y:Code}(h:X->DWp P nt n0 y Q st)(h0:c0 = .cond c x y:=by rfl)(hc:opd st.env c = .lit (.bool false):=by rfl):X->DWp P nt n0 c0 Q st:=λq=>by subst h0;~d_condF hc (h q)
theorem sq{x y:Code}(h:∀ K:DSt->Prop,(∀ s,DWp P nt n0 y Q s->K s)->X->DWp P nt n0 x (Qcp K Q) st):X->DWp P nt n0 (.seq x y) Q st:=λq=>d_seq λK k=>h K k q
theorem a_k{K D:DSt->Prop}{s:DSt}(k:∀ s,D s->K s)(h:X->D s):X->K s:=λx=>k s (h x)
variable{id:Nat}{ops:Array Oper}{l:List Oper}{y c0:Code}
theorem b_rs(h:QV P l.toArray l st λouts s=>seqB nt l outs=true/\(X->DWp P nt n0 y Q s))(h0:c0 = .seq (.region id ops false) y:=by rfl)(hl:ops=l.toArray:=by rfl):X->DWp P nt n0 c0 Q st:=λx=>by subst h0;~d_rs hl (h.mono λo s hs=>⟨hs.1,hs.2 x⟩)
theorem b_as[MixP P](h:QV P l.toArray l st λouts s=>(seqB nt l outs=true/\ordB l.toArray outs=true)/\(X->DWp P nt n0 y Q s))(h0:c0 = .seq (.region id ops true) y:=by rfl)(hl:ops=l.toArray:=by rfl)(hk:backB l.toArray=true:=by kernel_rfl):X->DWp P nt n0 c0 Q st:=λx=>by subst h0;~d_as MixP.ok hl hk (h.mono λo s hs=>⟨hs.1,hs.2 x⟩)
theorem b_rg(h:QV P l.toArray l st λouts s=>seqB nt l outs=true/\(X->Q .normal s))(h0:c0 = .region id ops false:=by rfl)(hl:ops=l.toArray:=by rfl):X->DWp P nt n0 c0 Q st:=λx=>by subst h0;~d_region hl (h.mono λo s hs=>⟨hs.1,hs.2 x⟩)
theorem b_ay[MixP P](h:QV P l.toArray l st λouts s=>(seqB nt l outs=true/\ordB l.toArray outs=true)/\(X->Q .normal s))(h0:c0 = .region id ops true:=by rfl)(hl:ops=l.toArray:=by rfl)(hk:backB l.toArray=true:=by kernel_rfl):X->DWp P nt n0 c0 Q st:=λx=>by subst h0;~d_any MixP.ok hl hk (h.mono λo s hs=>⟨hs.1,hs.2 x⟩)
theorem b_ayK[MixP P](K:List Nat)(h:QV P l.toArray l st λouts s=>(seqB nt l outs=true/\ordK K l.toArray outs=true/\cstP st.sto st.nxt outs K)/\(X->Q .normal s))(h0:c0 = .region id ops true:=by rfl)(hl:ops=l.toArray:=by rfl)(hk:backB l.toArray=true:=by kernel_rfl):X->DWp P nt n0 c0 Q st:=λx=>by subst h0;~d_anyK MixP.ok hl hk (h.mono λo s hs=>⟨hs.1,hs.2 x⟩)
theorem DWp.sto{c:Code}{env:Env}{sto sto':Sto}{nxt:Nat}(e:∀ s,sto.get s=sto'.get s)(h:DWp P nt n0 c Q ⟨env,sto',nxt⟩):DWp P nt n0 c Q ⟨env,sto,nxt⟩:=λC h1 h2 a w hs=>h C h1 h2 a w (by
 ð⟨m,hm,hM,hF⟩:=hs
 ~⟨m,hm,⟨hM.inv,hM.M,hM.size,hM.defers,hM.org,hM.lim0,hM.env,λs ob ho=>hM.sto s ob (by show Sto.get sto s=some ob;rw [e];~ho)⟩,hF⟩)
theorem Qj{c:Code}{env:Env}{sto:Sto}{nxt:Nat}(b j z:Nat){n:Nat}{fz:Bool}{cs:List DV}(hz:0<z)(hb:sto.get b=some ⟨n,false,fz,[cs]⟩)(hj:cs[j]?=some (.lit (.slice none 0 0)))
  (h:DWp P nt n0 c Q ⟨env,(b,⟨n,false,fz,[cs.set j (.own nxt 0 0)]⟩) :: (nxt,⟨z,true,false,[]⟩) :: sto,nxt+1⟩):DWp P nt n0 c Q ⟨env,sto,nxt⟩ :=
 d_nilB b j z hz hb hj (DWp.sto (λs=>by
  simp only [Sto.get_cons,Sto.drop_get]
  by_cases h1:s=b
  ·rw [if_pos h1,if_pos h1]
  ·by_cases h2:s=nxt
   ·simp [h1,h2]
   ·simp [h1,h2]) h)
theorem Qz{c:Code}{env:Env}{sto:Sto}{nxt:Nat}(k z:Nat)(hz:0<z)(hk:env.get k = .lit (.slice none 0 0))(h:DWp P nt n0 c Q ⟨env.put (some k) (.own nxt 0 0),(nxt,⟨z,true,false,[]⟩) :: sto,nxt+1⟩):DWp P nt n0 c Q ⟨env,sto,nxt⟩ :=
 d_nil k z hz hk (DWp.sto (λs=>by
  simp only [Sto.get_cons,Sto.drop_get]
  by_cases h2:s=nxt
  ·simp [h2]
  ·simp [h2]) h)
theorem ct{β ρ:Type}{x y:Code}{Y:Option β}{K:β->Option ρ}{r:ρ}(I:β->DSt)
  (hx:∀ z,Sm Y z->DWp P nt n0 x (Qcp (λs=>ZM n0 s (I z)) Q) st)(hy:∀ b,Sm (K b) r->DWp P nt n0 y Q (I b)):Sm (Y.bind K) r->DWp P nt n0 (.seq x y) Q st:=λH=>d_cutS I H hx hy
theorem cu{β ρ:Type}{x y:Code}{Y:Option (β ⊕ ρ)}{K:β->Option ρ}{r:ρ}(I:β->DSt)
  (hx:∀ z,(∀ r',z = .inr r'->r'=r)->Sm Y z->DWp P nt n0 x (Qcp (λs=>∃ b,z = .inl b/\ZM n0 s (I b)) Q) st)(hy:∀ b,Sm (K b) r->DWp P nt n0 y Q (I b)):Sm (bndR Y K) r->DWp P nt n0 (.seq x y) Q st:=λH=>d_cutT I H hx hy
theorem lp{β σ:Type}{body:Code}{f:σ->Option (LS σ β)}{s0:σ}{z:β}(I:σ->DSt)(h0:ZM n0 st (I s0))
  (hs:∀ s y,(∀ b,y = .out b->b=z)->Sm (f s) y->DWp P nt n0 body (Qcp (λs'=>∃ x',y = .go x'/\ZM n0 s' (I x')) Q) (I s)):Sm (Qh f s0) z->DWp P nt n0 (.loop body) Q st:=λH=>d_loopS I H h0 hs
theorem mk0 {β:Type} {v:Option β} {r:β} {f:FuncId} {fn:Func} {c:Code} {ds:List DV} {S:Sto} {rd:DV} {S':Sto} (hf:P.funcs[f]?=some fn)
  (h:Sm v r->DWp P (ds.length+(fn.ntmps-ds.length)) S.length c (RetD P fn S.length rd S') ⟨envOf 0 ds,S,S.length⟩) (hname:(fn.name == "runtime.NumGoroutine")=false:=by rfl) (hb:fn.body=some c:=by rfl):Sm v r->DCall P f ds S rd S':=λH=>DCall.mk hf hname hb (h H)
end
section
variable{n0:Nat}{st:DSt}{β σ ρ:Type}{I:β->DSt}{v z:β}{fr1 fr2:List Nat}
end
section
variable{P:Program}{env:Env}{sto:Sto}{nxt:Nat}{o:Oper}
theorem takeAll{td:TyD}{y:List DV}(hag:td.agg=true)(hl:y.length=td.size):ldD td y=some (.agg y):=by
 unfold ldD
 rw [if_pos hag,if_pos Oo,<- hl,WR]
theorem m_loadW{t s z:Nat}{p:Operand}{td:TyD}{y:List DV}{f1 f2:Bool}(ho:o.op = .load t p:=by rfl)(hp:opd env p = .ptr s 0 0:=by rfl)(ht:QF P t td:=by ~TyI.ok)(hag:td.agg=true:=by rfl)(hs:sto.get s=some ⟨z,f1,f2,[y]⟩:=by rfl)(hl:y.length=td.size:=by rfl) :
  Qv P o env sto nxt ⟨.agg y,[],[s],0⟩:=r_load ho ht hp hs rfl (takeAll (y:=y.drop 0) hag (by rw [UE];~hl))
theorem m_loadP{t:Nat}{p:Operand}{td:TyD}{y:List DV}(ho:o.op = .load t p:=by rfl)(hp:opd env p = .pp y:=by rfl)(ht:QF P t td:=by ~TyI.ok)(hag:td.agg=true:=by rfl)(hl:y.length=td.size:=by rfl) :
  Qv P o env sto nxt ⟨.agg y,[],[],0⟩:=r_loadP ho ht hp (takeAll hag hl)
theorem Qfl{t s z:Nat}{p x:Operand}{td:TyD}{y cs:List DV}{r:List Nat}(ho:o.op = .store t p x:=by rfl)(hp:opd env p = .ptr s 0 0:=by rfl)(hs:sto.get s=some ⟨z,false,false,[y]⟩:=by rfl)(ht:QF P t td:=by ~TyI.ok)(hc:Qbe td (opd env x)=some cs:=by rfl)
  (hl:y.length=cs.length:=by rfl)(hb:boxF sto cs=some r:=by rfl):Qv P o env sto nxt ⟨.any,[(s,some ⟨z,false,false,[cs]⟩)],s :: r,0⟩:=by
 have:=QfQ (P:=P) (nxt:=nxt) ho ht hp hs rfl rfl hc hb (y:=y) rfl Oo
 have e:∀ (cs y a:List DV),y.length=cs.length->setCells (a++y) a.length cs=a++cs:=by
  intro cs
  induction cs with
  | nil=>intro y a h;rw [Vp.1 h];rfl
  | cons c cs ih =>
   intro y a h
   cases y with
   | nil=>cases h
   | cons b y =>
    have:=ih y (a++[c]) (by simpa using h)
    rw [We,WP,WP] at this
    rw [setCells,Yk _ _ (Wl _),Ui]
    ~this
 have e0:=e cs y [] hl
 dsimp only at this
 rw [show setCells y 0 cs=cs from e0] at this
 ~this
theorem Qfm{t s j z:Nat}{p x:Operand}{td:TyD}{y cs row:List DV}{r:List Nat}(ho:o.op = .store t p x:=by rfl)(hp:opd env p = .ptr s 0 j:=by rfl)(hs:sto.get s=some ⟨z,false,false,[y]⟩:=by rfl)(ht:QF P t td:=by ~TyI.ok)(hc:Qbe td (opd env x)=some cs:=by rfl)
  (hj:j+cs.length<=y.length:=by first | decide | ~V0 rfl)(hb:boxF sto cs=some r:=by rfl)(hr:setCells y j cs=row:=by dsimp only [setCells,List.set];~rfl):Qv P o env sto nxt ⟨.any,[(s,some ⟨z,false,false,[row]⟩)],s :: r,0⟩:=by
 have:=QfQ (P:=P) (nxt:=nxt) ho ht hp hs rfl rfl hc hb (y:=y) rfl hj
 dsimp only at this
 rw [hr] at this
 ~this
theorem frzN{sto:Sto}:Qdr sto []=[]:=rfl
theorem frzC{sto:Sto}{s z:Nat}{a f:Bool}{els:List (List DV)}{l:List Nat}{u:List (Nat×Option Ob)}(h:sto.get s=some ⟨z,a,f,els⟩)(k:Qdr sto l=u):Qdr sto (s :: l)=(s,some ⟨z,a,true,els⟩) :: u:=by
 show (match sto.get s with | some ob=>(s,some { ob with frz:=true }) :: Qdr sto l | none=>Qdr sto l)=_
 rw [h,k]
def cuM(φ:Nat->Nat)(S':Sto)(ks:List (Nat×Nat)):List (Nat×Option Ob):=ks.map λp=>(p.2,(S'.get p.1).map (renO φ))
theorem cuN{φ:Nat->Nat}{S':Sto}:cuM φ S' []=[]:=rfl
theorem cuA{φ:Nat->Nat}{S':Sto}{a b z:Nat}{f:Bool}{els:List (List DV)}{l:List (Nat×Nat)}{u:List (Nat×Option Ob)}(h:S'.get a=some ⟨z,true,f,els⟩)(k:cuM φ S' l=u):cuM φ S' ((a,b) :: l)=(b,some ⟨z,true,f,els⟩) :: u:=by
 subst k
 unfold cuM
 rw [Vg]
 show (b,(S'.get a).map (renO φ)) :: _=_
 rw [h]
 rfl
theorem cuB{φ:Nat->Nat}{S':Sto}{a b z:Nat}{f:Bool}{els els':List (List DV)}{l:List (Nat×Nat)}{u:List (Nat×Option Ob)}(h:S'.get a=some ⟨z,false,f,els⟩)(he:els.map (renL φ)=els')(k:cuM φ S' l=u):cuM φ S' ((a,b) :: l)=(b,some ⟨z,false,f,els'⟩) :: u:=by
 subst k he
 unfold cuM
 rw [Vg]
 show (b,(S'.get a).map (renO φ)) :: _=_
 rw [h]
 rfl
theorem cuZ{φ:Nat->Nat}{S':Sto}{a b:Nat}{l:List (Nat×Nat)}{u:List (Nat×Option Ob)}(h:S'.get a=none)(k:cuM φ S' l=u):cuM φ S' ((a,b) :: l)=(b,none) :: u:=by
 subst k
 unfold cuM
 rw [Vg]
 show (b,(S'.get a).map (renO φ)) :: _=_
 rw [h]
 rfl
def cuK(ρ:Ren)(n0 nxt:Nat)(S':Sto):List (Nat×Nat):=ρ++(List.range (idb S' n0-n0)).map λi=>(n0+i,nxt+i)
theorem cu_eq(ρ:Ren)(n0 nxt:Nat)(S':Sto):QaK ρ n0 nxt S'=cuM (phi ρ n0 nxt) S' (cuK ρ n0 nxt S'):=by
 unfold QaK cuM cuK
 rw [WH,W3]
 rfl
theorem updS{ρ:Ren}{n0 nxt:Nat}{S':Sto}{ks:List (Nat×Nat)}{u:List (Nat×Option Ob)}(h:cuK ρ n0 nxt S'=ks)(k:cuM (phi ρ n0 nxt) S' ks=u):QaK ρ n0 nxt S'=u:=by rw [cu_eq,h,k]
theorem updG{sto:Sto}{ρ:Ren}{n0 nxt:Nat}{S':Sto}{u v:List (Nat×Option Ob)}{fr:List Nat}(h:QaK ρ n0 nxt S'=u)(k:Qdr sto fr=v):QaK ρ n0 nxt S'++Qdr sto fr=u++v:=by rw [h,k]
structure CS(ρ:Ren)(P:Program)(f:Nat)(ds:List DV)(S:Sto)(r:DV)(S':Sto):Prop where
 h:DCall P f ds S r S'
 a:scB r=true
 b:ScS S'
structure CG(ρ:Ren)(P:Program)(f:Nat)(ds:List DV)(S:Sto)(r:DV)(S':Sto):Prop where
 h:DCall P f ds S r S'
theorem cS{f:Nat}{ds:List DV}{S:Sto}{r:DV}{S':Sto}(ρ:Ren)(h:DCall P f ds S r S')(b:ScS S':=by repeat' (first | ~ScS.nil | &ScS.box (scL rfl) ?_ | &ScS.cons (scC λ_=>rfl) ?_))(a:scB r=true:=by rfl):CS ρ P f ds S r S':=⟨h,a,b⟩
theorem cG{f:Nat}{ds:List DV}{S:Sto}{r:DV}{S':Sto}(ρ:Ren)(h:DCall P f ds S r S'):CG ρ P f ds S r S':=⟨h⟩
theorem m_cSA{c:Operand}{args:Array Operand}{l:List Operand}{ty:Array TypeId}{f:Nat}{cap ds:List DV}{S:Sto}{r:DV}{S':Sto}{fr1 fr2:List Nat}{ρ:Ren}{us:List (Nat×Option Ob)}(ho:o.op = .call ⟨.value c,args,ty⟩:=by rfl)(hl:args=l.toArray:=by rfl)(hcl:Qbv env c f cap:=by first | ~.func | ~.tmp rfl | ~.clo rfl)(hc:CS ρ P f ds S r S':=by assumption)
  (hA:CvL sto ρ (l.map (opd env)++cap) ds fr1:=by repeat' (first | ~CvL.nil | apply CvL.cons | ~.lit | ~.own rfl | ~.sl | ~.nil | ~.ptr rfl | ~.ownE rfl (by first | assumption | ~Eq.symm Oa | omega | (simp;done) | (simp;omega)) | ~.frzM rfl (by first | assumption | ~Eq.symm Oa | omega | (simp;done) | (simp;omega)) | ~.dfzM rfl (λ_=>rfl) (λ_=>rfl) (by first | assumption | ~Eq.symm Oa | omega | (simp;done) | (simp;omega)) | ~.any | ~.pp | apply Cv.agg | apply Cv.tup | apply Cv.fn))
  (hS:CvS sto ρ S fr2:=by repeat' (first | ~CvS.nil | apply CvS.cons rfl rfl | ~.arr rfl | ~CvO.same (dpM λ_=>rfl) | apply CvO.rowAt (λ_=>rfl) | apply CvO.box | ~CvL.nil | apply CvL.cons | ~CvL.numbers _ | ~CvL.bools _ | ~.lit | ~.own rfl | ~.sl | ~.nil | ~.ptr rfl | ~.ownE rfl (by first | assumption | ~Eq.symm Oa | omega | (simp;done) | (simp;omega)) | ~.frzM rfl (by first | assumption | ~Eq.symm Oa | omega | (simp;done) | (simp;omega)) | ~.dfzM rfl (λ_=>rfl) (λ_=>rfl) (by first | assumption | ~Eq.symm Oa | omega | (simp;done) | (simp;omega))))
  (hok:okC ρ (fr1++fr2) S.length=true:=by rfl)(hkn:Qf6 sto ρ=true:=by rfl)(hu:QaK ρ S.length nxt S'=us:=by apply updS rfl;repeat' (first | ~cuN | apply cuA rfl | apply cuB rfl rfl | apply cuZ rfl)):Qv P o env sto nxt ⟨ren (phi ρ S.length nxt) r,us,ρ.map (·.2)++(fr1++fr2),idb S' S.length-S.length⟩:=hu▸Jn ρ hc.h hc.a hc.b ho hl hcl hA hS hok hkn
theorem m_cGA{c:Operand}{args:Array Operand}{l:List Operand}{ty:Array TypeId}{f:Nat}{cap ds:List DV}{S:Sto}{r:DV}{S':Sto}{fr1 fr2:List Nat}{ρ:Ren}{us:List (Nat×Option Ob)}(ho:o.op = .call ⟨.value c,args,ty⟩:=by rfl)(hl:args=l.toArray:=by rfl)(hcl:Qbv env c f cap:=by first | ~.func | ~.tmp rfl | ~.clo rfl)(hc:CG ρ P f ds S r S':=by assumption)
  (hA:CvL sto ρ (l.map (opd env)++cap) ds fr1:=by repeat' (first | ~CvL.nil | apply CvL.cons | ~.lit | ~.own rfl | ~.sl | ~.nil | ~.ptr rfl | ~.ownE rfl (by first | assumption | ~Eq.symm Oa | omega | (simp;done) | (simp;omega)) | ~.frzM rfl (by first | assumption | ~Eq.symm Oa | omega | (simp;done) | (simp;omega)) | ~.dfzM rfl (λ_=>rfl) (λ_=>rfl) (by first | assumption | ~Eq.symm Oa | omega | (simp;done) | (simp;omega)) | ~.any | ~.pp | apply Cv.agg | apply Cv.tup | apply Cv.fn))
  (hS:CvS sto ρ S fr2:=by repeat' (first | ~CvS.nil | apply CvS.cons rfl rfl | ~.arr rfl | ~CvO.same (dpM λ_=>rfl) | apply CvO.rowAt (λ_=>rfl) | apply CvO.box | ~CvL.nil | apply CvL.cons | ~CvL.numbers _ | ~CvL.bools _ | ~.lit | ~.own rfl | ~.sl | ~.nil | ~.ptr rfl | ~.ownE rfl (by first | assumption | ~Eq.symm Oa | omega | (simp;done) | (simp;omega)) | ~.frzM rfl (by first | assumption | ~Eq.symm Oa | omega | (simp;done) | (simp;omega)) | ~.dfzM rfl (λ_=>rfl) (λ_=>rfl) (by first | assumption | ~Eq.symm Oa | omega | (simp;done) | (simp;omega))))
  (hok:okC ρ (fr1++fr2) S.length=true:=by rfl)(hkn:Qf6 sto ρ=true:=by rfl)(hu:QaK ρ S.length nxt S'++Qdr sto (fr1++fr2)=us:=by apply updG;apply updS rfl;all_goals (repeat' (first | ~cuN | apply cuA rfl | apply cuB rfl rfl | apply cuZ rfl | ~frzN | apply frzC rfl))):Qv P o env sto nxt ⟨ren (phi ρ S.length nxt) r,us,ρ.map (·.2)++(fr1++fr2),idb S' S.length-S.length⟩:=hu▸m_cG ρ hc.h ho hl hcl hA hS hok hkn
end
section
variable{T G:Prop}
theorem au(k:G)(h:Wr G->T:=by
  intro hG
  repeat (show QV _ _ (_ :: _) _ _;first
   | &noA ?_ | &noB ?_
   | &goA m_move ?_ | &goA m_loadW ?_ | &goA m_loadP ?_ | &goA m_loadA ?_ | &goA m_set ?_
   | (show QV _ _ (⟨_,.binOp _ _ _ _ _,_,_,_,_⟩ :: _) _ _;first | &goA m_add ?_ | &goA m_lss ?_ | &goA m_sub ?_ | &goA m_eql ?_ | &goA m_neq ?_ | &goA m_leq ?_ | &goA m_gtr ?_ | &goA m_geq ?_ | &goA m_mul ?_ | &goA m_shrA ?_ | &goA m_shlA ?_ | &goA m_bits ?_ | &goA m_quoA ?_ | &goA m_remA ?_ | &goA m_eqBA ?_ | &goA m_neBA ?_ | &goA m_eqS ?_ | &goA m_neS ?_)
   | (show QV _ _ (⟨_,.call _,_,_,_,_⟩ :: _) _ _;first | &goA m_lenA ?_ | &goA m_cSA ?_ | &goA m_cGA ?_)
   | (show QV _ _ (⟨_,.indexAddr _ _ _,_,_,_,_⟩ :: _) _ _;first | &goA m_iaSA ?_ | &goA m_iaOA ?_)
   | &goA m_faA ?_ | &goA m_ldOA ?_ | &goA m_ext ?_ | &goA m_nil ?_ | &goA Qfl ?_ | &goA Qfm ?_ | &goA Qfn ?_ | &goA Qfp ?_ | &goA m_boxA ?_ | &goA Qfo ?_ | &goA m_pickA ?_ | &goA m_not ?_ | &goA m_cnvA ?_ | &goA m_neg ?_ | &goA m_xorE ?_ | &goA m_func ?_)
  first
   | &.nil ⟨Ok,?_⟩ | &.nil ⟨⟨Ok,Ok⟩,?_⟩
   | &.nil ⟨⟨Ok,Ok,by repeat' (first | ~trivial | ~rfl | ~.inl rfl | ~.inr rfl | &And.intro ?_ ?_)⟩,?_⟩
   | skip
  repeat (first
   | &QdY ?_ | &Qb5 ?_ | &QdZ ?_ | &Qb4 ?_ | &a_k Oa ?_)
  ~hG.get):T:=h ⟨k⟩
theorem ar(k:G)(h:Wr G->T:=by
  intro hG
  repeat (first
   | &QdY ?_ | &Qb5 ?_ | &QdZ ?_ | &Qb4 ?_ | &a_k Oa ?_)
  (first | &b_rs ?_ | &b_as ?_ | &b_rg ?_ | &b_ay ?_)
  repeat (show QV _ _ (_ :: _) _ _;first
   | &noA ?_ | &noB ?_
   | &goA m_move ?_ | &goA m_loadW ?_ | &goA m_loadP ?_ | &goA m_loadA ?_ | &goA m_set ?_
   | (show QV _ _ (⟨_,.binOp _ _ _ _ _,_,_,_,_⟩ :: _) _ _;first | &goA m_add ?_ | &goA m_lss ?_ | &goA m_sub ?_ | &goA m_eql ?_ | &goA m_neq ?_ | &goA m_leq ?_ | &goA m_gtr ?_ | &goA m_geq ?_ | &goA m_mul ?_ | &goA m_shrA ?_ | &goA m_shlA ?_ | &goA m_bits ?_ | &goA m_quoA ?_ | &goA m_remA ?_ | &goA m_eqBA ?_ | &goA m_neBA ?_ | &goA m_eqS ?_ | &goA m_neS ?_)
   | (show QV _ _ (⟨_,.call _,_,_,_,_⟩ :: _) _ _;first | &goA m_lenA ?_ | &goA m_cSA ?_ | &goA m_cGA ?_)
   | (show QV _ _ (⟨_,.indexAddr _ _ _,_,_,_,_⟩ :: _) _ _;first | &goA m_iaSA ?_ | &goA m_iaOA ?_)
   | &goA m_faA ?_ | &goA m_ldOA ?_ | &goA m_ext ?_ | &goA m_nil ?_ | &goA Qfl ?_ | &goA Qfm ?_ | &goA Qfn ?_ | &goA Qfp ?_ | &goA m_boxA ?_ | &goA Qfo ?_ | &goA m_pickA ?_ | &goA m_not ?_ | &goA m_cnvA ?_ | &goA m_neg ?_ | &goA m_xorE ?_ | &goA m_func ?_)
  first
   | &.nil ⟨Ok,?_⟩ | &.nil ⟨⟨Ok,Ok⟩,?_⟩
   | &.nil ⟨⟨Ok,Ok,by repeat' (first | ~trivial | ~rfl | ~.inl rfl | ~.inr rfl | &And.intro ?_ ?_)⟩,?_⟩
   | skip
  repeat (first
   | &QdY ?_ | &Qb5 ?_ | &QdZ ?_ | &Qb4 ?_ | &a_k Oa ?_)
  ~hG.get):T:=h ⟨k⟩
theorem ca(k:G)(h:Wr G->T:=by
  intro hG
  first | &a_condA ?_ | &a_condC ?_
  repeat (first
   | &QdY ?_ | &Qb5 ?_ | &QdZ ?_ | &Qb4 ?_ | &a_k Oa ?_)
  ~hG.get):T:=h ⟨k⟩
theorem cb(k:G)(h:Wr G->T:=by
  intro hG
  first | &a_condB ?_ | &a_condD ?_
  repeat (first
   | &QdY ?_ | &Qb5 ?_ | &QdZ ?_ | &Qb4 ?_ | &a_k Oa ?_)
  ~hG.get):T:=h ⟨k⟩
theorem da(k:G)(h:Wr G->T:=by
  intro hG
  first | &a_condA ?_ | &a_condC ?_
  repeat (first
   | &QdY ?_ | &Qb5 ?_ | &QdZ ?_ | &Qb4 ?_ | &a_k Oa ?_)
  (first | &b_rs ?_ | &b_as ?_ | &b_rg ?_ | &b_ay ?_)
  repeat (show QV _ _ (_ :: _) _ _;first
   | &noA ?_ | &noB ?_
   | &goA m_move ?_ | &goA m_loadW ?_ | &goA m_loadP ?_ | &goA m_loadA ?_ | &goA m_set ?_
   | (show QV _ _ (⟨_,.binOp _ _ _ _ _,_,_,_,_⟩ :: _) _ _;first | &goA m_add ?_ | &goA m_lss ?_ | &goA m_sub ?_ | &goA m_eql ?_ | &goA m_neq ?_ | &goA m_leq ?_ | &goA m_gtr ?_ | &goA m_geq ?_ | &goA m_mul ?_ | &goA m_shrA ?_ | &goA m_shlA ?_ | &goA m_bits ?_ | &goA m_quoA ?_ | &goA m_remA ?_ | &goA m_eqBA ?_ | &goA m_neBA ?_ | &goA m_eqS ?_ | &goA m_neS ?_)
   | (show QV _ _ (⟨_,.call _,_,_,_,_⟩ :: _) _ _;first | &goA m_lenA ?_ | &goA m_cSA ?_ | &goA m_cGA ?_)
   | (show QV _ _ (⟨_,.indexAddr _ _ _,_,_,_,_⟩ :: _) _ _;first | &goA m_iaSA ?_ | &goA m_iaOA ?_)
   | &goA m_faA ?_ | &goA m_ldOA ?_ | &goA m_ext ?_ | &goA m_nil ?_ | &goA Qfl ?_ | &goA Qfm ?_ | &goA Qfn ?_ | &goA Qfp ?_ | &goA m_boxA ?_ | &goA Qfo ?_ | &goA m_pickA ?_ | &goA m_not ?_ | &goA m_cnvA ?_ | &goA m_neg ?_ | &goA m_xorE ?_ | &goA m_func ?_)
  first
   | &.nil ⟨Ok,?_⟩ | &.nil ⟨⟨Ok,Ok⟩,?_⟩
   | &.nil ⟨⟨Ok,Ok,by repeat' (first | ~trivial | ~rfl | ~.inl rfl | ~.inr rfl | &And.intro ?_ ?_)⟩,?_⟩
   | skip
  repeat (first
   | &QdY ?_ | &Qb5 ?_ | &QdZ ?_ | &Qb4 ?_ | &a_k Oa ?_)
  ~hG.get):T:=h ⟨k⟩
theorem db(k:G)(h:Wr G->T:=by
  intro hG
  first | &a_condB ?_ | &a_condD ?_
  repeat (first
   | &QdY ?_ | &Qb5 ?_ | &QdZ ?_ | &Qb4 ?_ | &a_k Oa ?_)
  (first | &b_rs ?_ | &b_as ?_ | &b_rg ?_ | &b_ay ?_)
  repeat (show QV _ _ (_ :: _) _ _;first
   | &noA ?_ | &noB ?_
   | &goA m_move ?_ | &goA m_loadW ?_ | &goA m_loadP ?_ | &goA m_loadA ?_ | &goA m_set ?_
   | (show QV _ _ (⟨_,.binOp _ _ _ _ _,_,_,_,_⟩ :: _) _ _;first | &goA m_add ?_ | &goA m_lss ?_ | &goA m_sub ?_ | &goA m_eql ?_ | &goA m_neq ?_ | &goA m_leq ?_ | &goA m_gtr ?_ | &goA m_geq ?_ | &goA m_mul ?_ | &goA m_shrA ?_ | &goA m_shlA ?_ | &goA m_bits ?_ | &goA m_quoA ?_ | &goA m_remA ?_ | &goA m_eqBA ?_ | &goA m_neBA ?_ | &goA m_eqS ?_ | &goA m_neS ?_)
   | (show QV _ _ (⟨_,.call _,_,_,_,_⟩ :: _) _ _;first | &goA m_lenA ?_ | &goA m_cSA ?_ | &goA m_cGA ?_)
   | (show QV _ _ (⟨_,.indexAddr _ _ _,_,_,_,_⟩ :: _) _ _;first | &goA m_iaSA ?_ | &goA m_iaOA ?_)
   | &goA m_faA ?_ | &goA m_ldOA ?_ | &goA m_ext ?_ | &goA m_nil ?_ | &goA Qfl ?_ | &goA Qfm ?_ | &goA Qfn ?_ | &goA Qfp ?_ | &goA m_boxA ?_ | &goA Qfo ?_ | &goA m_pickA ?_ | &goA m_not ?_ | &goA m_cnvA ?_ | &goA m_neg ?_ | &goA m_xorE ?_ | &goA m_func ?_)
  first
   | &.nil ⟨Ok,?_⟩ | &.nil ⟨⟨Ok,Ok⟩,?_⟩
   | &.nil ⟨⟨Ok,Ok,by repeat' (first | ~trivial | ~rfl | ~.inl rfl | ~.inr rfl | &And.intro ?_ ?_)⟩,?_⟩
   | skip
  repeat (first
   | &QdY ?_ | &Qb5 ?_ | &QdZ ?_ | &Qb4 ?_ | &a_k Oa ?_)
  ~hG.get):T:=h ⟨k⟩
theorem resW{P:Program}{st:DSt}{t ty k z:Nat}{td:TyD}{y:List DV}{f1 f2:Bool}{l:List ResultVar}{ds:List DV}(ht:QF P ty td)(h1:st.env.get t = .ptr k 0 0)(hag:td.agg=true)(h2:st.sto.get k=some ⟨z,f1,f2,[y]⟩)(hl:y.length=td.size)(h:ResL P st l ds):ResL P st (.cell t ty :: l) (.agg y :: ds):=by
 &.cell ht h1 h2 rfl ?_ h
 unfold ldD
 rw [if_pos hag,UE,if_pos Oo,<- hl,WR]
structure QeA(ρ:Ren):Prop where
theorem finF{P:Program}{fn:Func}{n0:Nat}{r:DV}{S':Sto}{e:Exit}{st:DSt}{ds:List DV}{fr1 fr2:List Nat}{ρ:Ren}(hρ:QeA ρ)
  (hl:ResL P st fn.results.toList ds)
  (h1:Cv st.sto ρ (resV ds) r fr1:=by repeat' (first | ~.lit | ~.own rfl | ~.sl | ~.nil | ~.ptr rfl | ~.ownE rfl (by first | assumption | ~Eq.symm Oa | omega | (simp;done) | (simp;omega)) | ~.frzM rfl (by first | assumption | ~Eq.symm Oa | omega | (simp;done) | (simp;omega)) | ~.dfzM rfl (λ_=>rfl) (λ_=>rfl) (by first | assumption | ~Eq.symm Oa | omega | (simp;done) | (simp;omega)) | ~CvL.nil | apply CvL.cons | apply Cv.agg | apply Cv.tup | apply Cv.fn | ~.any | ~.pp))
  (h2:CvS st.sto ρ S' fr2:=by repeat' (first | ~CvS.nil | apply CvS.cons rfl rfl | ~.arr rfl | ~CvO.same (dpM λ_=>rfl) | apply CvO.rowAt (λ_=>rfl) | apply CvO.box | ~CvL.nil | apply CvL.cons | ~CvL.numbers _ | ~CvL.bools _ | ~.lit | ~.own rfl | ~.sl | ~.nil | ~.ptr rfl | ~.ownE rfl (by first | assumption | ~Eq.symm Oa | omega | (simp;done) | (simp;omega)) | ~.frzM rfl (by first | assumption | ~Eq.symm Oa | omega | (simp;done) | (simp;omega)) | ~.dfzM rfl (λ_=>rfl) (λ_=>rfl) (by first | assumption | ~Eq.symm Oa | omega | (simp;done) | (simp;omega)) | ~.any | ~.pp))
  (h3:okR ρ (fr1++fr2) n0 (idb S' n0)=true:=by rfl)
  (he:e = .normal\/e = .ret:=by first | ~.inr rfl | ~.inl rfl):RetD P fn n0 r S' e st:=finE ρ hl h1 h2 h3 he
theorem ft(ρ:Ren)(h:QeA ρ->T:=by
  intro hρ
  first | &QeZ ?_ | skip
  intro H
  have e:=se H
  subst e
  change RetD _ _ _ _ _ _ _
  ~finF hρ (.tmp .nil)):T:=h ⟨⟩
theorem ftt(ρ:Ren)(h:QeA ρ->T:=by
  intro hρ
  first | &QeZ ?_ | skip
  intro H
  have e:=se H
  subst e
  change RetD _ _ _ _ _ _ _
  ~finF hρ (.tmp (.tmp .nil))):T:=h ⟨⟩
theorem fttt(ρ:Ren)(h:QeA ρ->T:=by
  intro hρ
  first | &QeZ ?_ | skip
  intro H
  have e:=se H
  subst e
  change RetD _ _ _ _ _ _ _
  ~finF hρ (.tmp (.tmp (.tmp .nil)))):T:=h ⟨⟩
theorem Qby(ρ:Ren)(h:QeA ρ->T:=by
  intro hρ
  first | &QeZ ?_ | skip
  intro H
  have e:=se H
  subst e
  change RetD _ _ _ _ _ _ _
  ~finF hρ (.tmp (.tmp (.tmp (.tmp (.tmp .nil)))))):T:=h ⟨⟩
theorem fw(ρ:Ren)(h:QeA ρ->T:=by
  intro hρ
  first | &QeZ ?_ | skip
  intro H
  have e:=se H
  subst e
  change RetD _ _ _ _ _ _ _
  ~finF hρ (resW TyI.ok rfl rfl rfl rfl .nil)):T:=h ⟨⟩
theorem fwt(ρ:Ren)(h:QeA ρ->T:=by
  intro hρ
  first | &QeZ ?_ | skip
  intro H
  have e:=se H
  subst e
  change RetD _ _ _ _ _ _ _
  ~finF hρ (resW TyI.ok rfl rfl rfl rfl (.tmp .nil))):T:=h ⟨⟩
theorem fww(ρ:Ren)(h:QeA ρ->T:=by
  intro hρ
  first | &QeZ ?_ | skip
  intro H
  have e:=se H
  subst e
  change RetD _ _ _ _ _ _ _
  ~finF hρ (resW TyI.ok rfl rfl rfl rfl (resW TyI.ok rfl rfl rfl rfl .nil))):T:=h ⟨⟩
theorem fwtt(ρ:Ren)(h:QeA ρ->T:=by
  intro hρ
  first | &QeZ ?_ | skip
  intro H
  have e:=se H
  subst e
  change RetD _ _ _ _ _ _ _
  ~finF hρ (resW TyI.ok rfl rfl rfl rfl (.tmp (.tmp .nil)))):T:=h ⟨⟩
theorem fwwt(ρ:Ren)(h:QeA ρ->T:=by
  intro hρ
  first | &QeZ ?_ | skip
  intro H
  have e:=se H
  subst e
  change RetD _ _ _ _ _ _ _
  ~finF hρ (resW TyI.ok rfl rfl rfl rfl (resW TyI.ok rfl rfl rfl rfl (.tmp .nil)))):T:=h ⟨⟩
theorem ftwt(ρ:Ren)(h:QeA ρ->T:=by
  intro hρ
  first | &QeZ ?_ | skip
  intro H
  have e:=se H
  subst e
  change RetD _ _ _ _ _ _ _
  ~finF hρ (.tmp (resW TyI.ok rfl rfl rfl rfl (.tmp .nil)))):T:=h ⟨⟩
theorem fwttt(ρ:Ren)(h:QeA ρ->T:=by
  intro hρ
  first | &QeZ ?_ | skip
  intro H
  have e:=se H
  subst e
  change RetD _ _ _ _ _ _ _
  ~finF hρ (resW TyI.ok rfl rfl rfl rfl (.tmp (.tmp (.tmp .nil))))):T:=h ⟨⟩
theorem ftw(ρ:Ren)(h:QeA ρ->T:=by
  intro hρ
  first | &QeZ ?_ | skip
  intro H
  have e:=se H
  subst e
  change RetD _ _ _ _ _ _ _
  ~finF hρ (.tmp (resW TyI.ok rfl rfl rfl rfl .nil))):T:=h ⟨⟩
end
inductive PlE(env:Env){β:Type}:List Nat->List (Nat×(β->DV))->(β->Env)->Prop
 | nil:PlE env [] [] (λ_=>[])
 | put {k:Nat} {f:β->DV} {l:List (Nat×(β->DV))} {E:β->Env}:PlE env [] l E->PlE env [] ((k,f) :: l) (λb=>(k,f b) :: E b)
 | lit {k:Nat} {v:Value} {l:List Nat} {p:List (Nat×(β->DV))} {E:β->Env}:env.get k = .lit v->PlE env l p E->PlE env (k :: l) p (λb=>(k,.lit v) :: E b)
 | own {k s i n:Nat} {l:List Nat} {p:List (Nat×(β->DV))} {E:β->Env}:env.get k = .own s i n->PlE env l p E->PlE env (k :: l) p (λb=>(k,.own s i n) :: E b)
 | ptr {k s i n:Nat} {l:List Nat} {p:List (Nat×(β->DV))} {E:β->Env}:env.get k = .ptr s i n->PlE env l p E->PlE env (k :: l) p (λb=>(k,.ptr s i n) :: E b)
 | sl {k:Nat} {v:List (List DV)} {l:List Nat} {p:List (Nat×(β->DV))} {E:β->Env}:env.get k = .sl v->PlE env l p E->PlE env (k :: l) p (λb=>(k,.sl v) :: E b)
 | agg {k:Nat} {v:List DV} {l:List Nat} {p:List (Nat×(β->DV))} {E:β->Env}:env.get k = .agg v->PlE env l p E->PlE env (k :: l) p (λb=>(k,.agg v) :: E b)
 | tup {k:Nat} {v:List DV} {l:List Nat} {p:List (Nat×(β->DV))} {E:β->Env}:env.get k = .tup v->PlE env l p E->PlE env (k :: l) p (λb=>(k,.tup v) :: E b)
 | fn {k f:Nat} {v:List DV} {l:List Nat} {p:List (Nat×(β->DV))} {E:β->Env}:env.get k = .fn f v->PlE env l p E->PlE env (k :: l) p (λb=>(k,.fn f v) :: E b)
inductive Rw{β:Type}:List DV->List (Nat×(β->DV))->(β->List DV)->Prop
 | nil {row:List DV}:Rw row [] (λ_=>row)
 | hit {d:DV} {row:List DV} {f:β->DV} {l:List (Nat×(β->DV))} {R:β->List DV}:Rw row l R->Rw (d :: row) ((0,f) :: l) (λb=>f b :: R b)
 | miss {d:DV} {row:List DV} {n:Nat} {f:β->DV} {l:List (Nat×(β->DV))} {R:β->List DV}:Rw row ((n,f) :: l) R->Rw (d :: row) ((n+1,f) :: l) (λb=>d :: R b)
inductive PlS(sto:Sto){β:Type}:List Nat->List (Nat×List (Nat×(β->DV)))->List (Nat×(β->Ob))->(β->Sto)->Prop
 | nil:PlS sto [] [] [] (λ_=>[])
 | put {k:Nat} {f:β->Ob} {l:List (Nat×(β->Ob))} {S:β->Sto}:PlS sto [] [] l S->PlS sto [] [] ((k,f) :: l) (λb=>(k,f b) :: S b)
 | cel {k z:Nat} {fz:Bool} {row:List DV} {q:List (Nat×(β->DV))} {R:β->List DV} {c:List (Nat×List (Nat×(β->DV)))} {l:List (Nat×(β->Ob))} {S:β->Sto}:sto.get k=some ⟨z,false,fz,[row]⟩->Rw row q R->PlS sto [] c l S->PlS sto [] ((k,q) :: c) l (λb=>(k,⟨z,false,fz,[R b]⟩) :: S b)
 | keep {k z:Nat} {a fz:Bool} {els:List (List DV)} {ks:List Nat} {c:List (Nat×List (Nat×(β->DV)))} {l:List (Nat×(β->Ob))} {S:β->Sto}:sto.get k=some ⟨z,a,fz,els⟩->PlS sto ks c l S->PlS sto (k :: ks) c l (λb=>(k,⟨z,a,fz,els⟩) :: S b)
inductive RI:Sto->Ren->Ren->Prop
 | nil {ex:Ren}:RI [] ex ex
 | skip {k s:Nat} {ob:Ob} {S:Sto} {ex ρ:Ren}:ex.get k=some s->RI S ex ρ->RI ((k,ob) :: S) ex ρ
 | cons {k:Nat} {ob:Ob} {S:Sto} {ex ρ:Ren}:ex.get k=none->RI S ex ρ->RI ((k,ob) :: S) ex ((k,k) :: ρ)
theorem wkJ{n0:Nat}{st st':DSt}{fr1 fr2:List Nat}{ρ:Ren}(ex:Ren)(hρ:RI st'.sto ex ρ:=by repeat (first | ~RI.nil | apply RI.cons rfl | apply RI.skip rfl))
  (h1:CvE st.sto ρ st.env st'.env fr1:=by repeat' (first | ~CvE.nil | apply CvE.cons | ~.lit | ~.own rfl | ~.sl | ~.nil | ~.ptr rfl | ~.ownE rfl (by first | assumption | ~Eq.symm Oa | omega | (simp;done) | (simp;omega)) | ~.frzM rfl (by first | assumption | ~Eq.symm Oa | omega | (simp;done) | (simp;omega)) | ~.dfzM rfl (λ_=>rfl) (λ_=>rfl) (by first | assumption | ~Eq.symm Oa | omega | (simp;done) | (simp;omega)) | ~.any | ~.pp | ~CvL.nil | apply CvL.cons | apply Cv.agg | apply Cv.tup | apply Cv.fn))
  (h2:CvS st.sto ρ st'.sto fr2:=by repeat' (first | ~CvS.nil | apply CvS.cons rfl rfl | ~.arr rfl | ~CvO.same (dpM λ_=>rfl) | apply CvO.rowAt (λ_=>rfl) | apply CvO.box | ~CvL.nil | apply CvL.cons | ~CvL.numbers _ | ~CvL.bools _ | ~.lit | ~.own rfl | ~.sl | ~.nil | ~.ptr rfl | ~.ownE rfl (by first | assumption | ~Eq.symm Oa | omega | (simp;done) | (simp;omega)) | ~.frzM rfl (by first | assumption | ~Eq.symm Oa | omega | (simp;done) | (simp;omega)) | ~.dfzM rfl (λ_=>rfl) (λ_=>rfl) (by first | assumption | ~Eq.symm Oa | omega | (simp;done) | (simp;omega)) | ~.any | ~.pp))
  (h3:okR ρ (fr1++fr2) n0 st'.nxt=true:=by rfl):ZM n0 st st':=wkE ρ h1 h2 h3
structure ExIs(ex:Ren):Prop where
theorem wkK{n0:Nat}{st st':DSt}{fr1 fr2:List Nat}{ρ ex:Ren}(he:ExIs ex)(hρ:RI st'.sto ex ρ:=by repeat (first | ~RI.nil | apply RI.cons rfl | apply RI.skip rfl))
  (h1:CvE st.sto ρ st.env st'.env fr1:=by repeat' (first | ~CvE.nil | apply CvE.cons | ~.lit | ~.own rfl | ~.sl | ~.nil | ~.ptr rfl | ~.ownE rfl (by first | assumption | ~Eq.symm Oa | omega | (simp;done) | (simp;omega)) | ~.frzM rfl (by first | assumption | ~Eq.symm Oa | omega | (simp;done) | (simp;omega)) | ~.dfzM rfl (λ_=>rfl) (λ_=>rfl) (by first | assumption | ~Eq.symm Oa | omega | (simp;done) | (simp;omega)) | ~.any | ~.pp | ~CvL.nil | apply CvL.cons | apply Cv.agg | apply Cv.tup | apply Cv.fn))
  (h2:CvS st.sto ρ st'.sto fr2:=by repeat' (first | ~CvS.nil | apply CvS.cons rfl rfl | ~.arr rfl | ~CvO.same (dpM λ_=>rfl) | apply CvO.rowAt (λ_=>rfl) | apply CvO.box | ~CvL.nil | apply CvL.cons | ~CvL.numbers _ | ~CvL.bools _ | ~.lit | ~.own rfl | ~.sl | ~.nil | ~.ptr rfl | ~.ownE rfl (by first | assumption | ~Eq.symm Oa | omega | (simp;done) | (simp;omega)) | ~.frzM rfl (by first | assumption | ~Eq.symm Oa | omega | (simp;done) | (simp;omega)) | ~.dfzM rfl (λ_=>rfl) (λ_=>rfl) (by first | assumption | ~Eq.symm Oa | omega | (simp;done) | (simp;omega)) | ~.any | ~.pp))
  (h3:okR ρ (fr1++fr2) n0 st'.nxt=true:=by rfl):ZM n0 st st':=wkE ρ h1 h2 h3
theorem wJ{T:Prop}(ex:Ren)(h:ExIs ex->T:=by
  intro hx H
  have e:=se H
  subst e
  first | ~wkK hx | ~⟨_,rfl,wkK hx⟩):T:=h ⟨⟩
section
variable{P:Program}{nt n0:Nat}{Q:Exit->DSt->Prop}{st:DSt}
theorem cT{β ρ:Type}{x y:Code}{Y:Option β}{K:β->Option ρ}{r:ρ}(kE:List Nat)(pE:List (Nat×(β->DV)))(kS:List Nat)(cS:List (Nat×List (Nat×(β->DV))))(pS:List (Nat×(β->Ob)))(n:Nat){E:β->Env}{S:β->Sto}
  (hx:∀ z,Sm Y z->DWp P nt n0 x (Qcp (λs=>ZM n0 s ⟨E z,S z,n⟩) Q) st)(hy:∀ b,Sm (K b) r->DWp P nt n0 y Q ⟨E b,S b,n⟩)
  (hE:PlE st.env kE pE E:=by repeat (first | ~PlE.nil | apply PlE.lit rfl | apply PlE.own rfl | apply PlE.ptr rfl | apply PlE.sl rfl | apply PlE.agg rfl | apply PlE.tup rfl | apply PlE.fn rfl | apply PlE.put))(hS:PlS st.sto kS cS pS S:=by repeat (first | ~PlS.nil | apply PlS.keep rfl | (apply PlS.cel rfl;repeat (first | ~Rw.nil | apply Rw.hit | apply Rw.miss)) | apply PlS.put)):Sm (Y.bind K) r->DWp P nt n0 (.seq x y) Q st:=ct (λb=>⟨E b,S b,n⟩) hx hy
theorem cU{β ρ:Type}{x y:Code}{Y:Option (β ⊕ ρ)}{K:β->Option ρ}{r:ρ}(kE:List Nat)(pE:List (Nat×(β->DV)))(kS:List Nat)(cS:List (Nat×List (Nat×(β->DV))))(pS:List (Nat×(β->Ob)))(n:Nat){E:β->Env}{S:β->Sto}
  (hx:∀ z,(∀ r',z = .inr r'->r'=r)->Sm Y z->DWp P nt n0 x (Qcp (λs=>∃ b,z = .inl b/\ZM n0 s ⟨E b,S b,n⟩) Q) st)(hy:∀ b,Sm (K b) r->DWp P nt n0 y Q ⟨E b,S b,n⟩)
  (hE:PlE st.env kE pE E:=by repeat (first | ~PlE.nil | apply PlE.lit rfl | apply PlE.own rfl | apply PlE.ptr rfl | apply PlE.sl rfl | apply PlE.agg rfl | apply PlE.tup rfl | apply PlE.fn rfl | apply PlE.put))(hS:PlS st.sto kS cS pS S:=by repeat (first | ~PlS.nil | apply PlS.keep rfl | (apply PlS.cel rfl;repeat (first | ~Rw.nil | apply Rw.hit | apply Rw.miss)) | apply PlS.put)):Sm (bndR Y K) r->DWp P nt n0 (.seq x y) Q st:=cu (λb=>⟨E b,S b,n⟩) hx hy
theorem lP{β σ:Type}{body:Code}{f:σ->Option (LS σ β)}{s0:σ}{z:β}(kE:List Nat)(pE:List (Nat×(σ->DV)))(kS:List Nat)(cS:List (Nat×List (Nat×(σ->DV))))(pS:List (Nat×(σ->Ob)))(n:Nat){E:σ->Env}{S:σ->Sto}
  (hs:∀ s y,(∀ b,y = .out b->b=z)->Sm (f s) y->DWp P nt n0 body (Qcp (λs'=>∃ x',y = .go x'/\ZM n0 s' ⟨E x',S x',n⟩) Q) ⟨E s,S s,n⟩)
  (hE:PlE st.env kE pE E:=by repeat (first | ~PlE.nil | apply PlE.lit rfl | apply PlE.own rfl | apply PlE.ptr rfl | apply PlE.sl rfl | apply PlE.agg rfl | apply PlE.tup rfl | apply PlE.fn rfl | apply PlE.put))(hS:PlS st.sto kS cS pS S:=by repeat (first | ~PlS.nil | apply PlS.keep rfl | (apply PlS.cel rfl;repeat (first | ~Rw.nil | apply Rw.hit | apply Rw.miss)) | apply PlS.put))(h0:ZM n0 st ⟨E s0,S s0,n⟩:=by ~wkJ []):Sm (Qh f s0) z->DWp P nt n0 (.loop body) Q st:=lp (λs=>⟨E s,S s,n⟩) h0 hs
theorem lQ{β σ:Type}{body:Code}{f:σ->Option (LS σ β)}{s0:σ}{z:β}(ex:Ren)(kE:List Nat)(pE:List (Nat×(σ->DV)))(kS:List Nat)(cS:List (Nat×List (Nat×(σ->DV))))(pS:List (Nat×(σ->Ob)))(n:Nat){E:σ->Env}{S:σ->Sto}
  (hs:∀ s y,(∀ b,y = .out b->b=z)->Sm (f s) y->DWp P nt n0 body (Qcp (λs'=>∃ x',y = .go x'/\ZM n0 s' ⟨E x',S x',n⟩) Q) ⟨E s,S s,n⟩)
  (hE:PlE st.env kE pE E:=by repeat (first | ~PlE.nil | apply PlE.lit rfl | apply PlE.own rfl | apply PlE.ptr rfl | apply PlE.sl rfl | apply PlE.agg rfl | apply PlE.tup rfl | apply PlE.fn rfl | apply PlE.put))(hS:PlS st.sto kS cS pS S:=by repeat (first | ~PlS.nil | apply PlS.keep rfl | (apply PlS.cel rfl;repeat (first | ~Rw.nil | apply Rw.hit | apply Rw.miss)) | apply PlS.put))(h0:ExIs ex->ZM n0 st ⟨E s0,S s0,n⟩:=by intro hx;~wkK hx):Sm (Qh f s0) z->DWp P nt n0 (.loop body) Q st:=lp (λs=>⟨E s,S s,n⟩) (h0 ⟨⟩) hs
end
end Go.Proofs.YtkfnkecgcdhncaaGreat
