/- Parts of the proof. No condition. -/
import Derived.Test.YthpnlnjdmlbnaaaGreatDoorQB0
import Derived.Test.YthpnlnjdmlbnaaaGreatDoorQB1
import Derived.KernelRfl
import Derived.Laws.StructEq
import Derived.IntWalk
import Derived.ChangeSlices
import Derived.Deep.Slices
import Derived.Below
import Derived.Test.YthpnlnjdmlbnaaaGreatDoorRows
import Derived.OpenShut
import Derived.LaidMore
import Derived.Lay
import Derived.LaidOnce
import Derived.Laws.Externs
import Derived.Test.YthpnlnjdmlbnaaaGreatDoorChecked
namespace Go.Proofs.YthpnlnjdmlbnaaaGreatDoor
open Go.RowKit
set_option linter.unusedSimpArgs false
set_option linter.unusedVariables false
theorem Qbn{α:Type}{l:List α}{i:Nat}{a:α}(h:l[i]?=some a):i < l.length:=by
 rcases Wq i l.length with h' | h'
 ·exact h'
 ·rw [Wf h'] at h;cases h
def setC(els:List (List DV))(i j:Nat)(d:DV):List (List DV):=els.set i ((els.getD i []).set j d)
theorem QdD{els:List (List DV)}{i j:Nat}{x:List DV}{d0 d:DV}(hx:els[i]?=some x)(hj:x[j]?=some d0){i' j':Nat}{x':List DV}{d':DV}(h1:(setC els i j d)[i']?=some x')(h2:x'[j']?=some d') :
  (i'=i/\j'=j/\d'=d)\/(¬ (i'=i/\j'=j)/\∃ x0,els[i']?=some x0/\x0[j']?=some d'):=by
 have hi:=Qbn hx
 have hjl:=Qbn hj
 unfold setC at h1
 have e:els.getD i []=x:=by rw [Vx,hx];rfl
 rw [e] at h1
 by_cases hii:i'=i
 ·subst hii
  rw [WB hi] at h1
  injection h1 with h1
  subst h1
  by_cases hjj:j'=j
  ·subst hjj
   rw [WB hjl] at h2
   injection h2 with h2
   exact .inl ⟨rfl,rfl,h2.symm⟩
  ·rw [WA (λh=>hjj h.symm)] at h2
   exact .inr ⟨λh=>hjj h.2,x,hx,h2⟩
 ·rw [WA (λh=>hii h.symm)] at h1
  exact .inr ⟨λh=>hii h.1,x',h1,h2⟩
theorem setC_sz{els:List (List DV)}{i j:Nat}{x:List DV}{d:DV}(hx:els[i]?=some x){z:Nat}(h:∀ (i:Nat) x,els[i]?=some x->x.length=z){i':Nat}{x':List DV}(h1:(setC els i j d)[i']?=some x'):x'.length=z:=by
 have e:els.getD i []=x:=by rw [Vx,hx];rfl
 unfold setC at h1
 rw [e] at h1
 by_cases hii:i'=i
 ·subst hii
  rw [WB (Qbn hx)] at h1
  injection h1 with h1
  subst h1
  rw [Ww]
  exact h _ _ hx
 ·rw [WA (λh=>hii h.symm)] at h1
  exact h _ _ h1
theorem setC_len{els:List (List DV)}{i j:Nat}{d:DV}:(setC els i j d).length=els.length:=by simp [setC]
section
variable{F:Fm}{m:Mem}
theorem Jq{ob:Ob}{g cap:Nat}(r:Row m ob g cap){i j:Nat}{x:List DV}{d:DV}(hx:ob.els[i]?=some x)(hj:x[j]?=some d):∃ u,m.w.cell? ⟨g,i * ob.esz+j,none⟩=some u/\CRep m ob.arr u d:=by
 obtain ⟨cur,T,c1,c2,c3⟩:=r.cells
 obtain ⟨u,hu,h⟩:=c3 i x j d hx hj
 exact ⟨u,by rw [cell_of_row m.w g _ cur T (0,0) c1];exact hu,h⟩
theorem QbH{m':Mem}{ob ob':Ob}{g cap:Nat}(r:Row m ob g cap)(hw:m'.w=m.w)(hz:ob'.esz=ob.esz)(hl:ob'.els.length=ob.els.length)(hs:∀ (i:Nat) x,ob'.els[i]?=some x->x.length=ob.esz)
  (h:∀ (i:Nat) x (j:Nat) d u,ob'.els[i]?=some x->x[j]?=some d->m.w.cell? ⟨g,i * ob.esz+j,none⟩=some u->CRep m' ob'.arr u d):Row m' ob' g cap:=by
 obtain ⟨cur,T,c1,c2,c3⟩:=r.cells
 refine ⟨⟨cur,T,by rw [hw];exact c1,by rw [hz];exact c2,λi x j d hx hd=>?_⟩,by rw [hl];exact r.len,r.max,by rw [hz];exact r.pos,λi x hx=>by rw [hz];exact hs i x hx⟩
 have h1:=Qbn hx
 rw [hl] at h1
 have hlen:=r.sz i _ (Wa h1)
 have h2:=hs i x hx
 have h3:=Qbn hd
 obtain ⟨u,hu,_⟩:=c3 i _ j _ (Wa h1) (Wa (show j < ob.els[i].length by omega))
 rw [hz]
 exact ⟨u,hu,h i x j d u hx hd (by rw [cell_of_row m.w g _ cur T (0,0) c1];exact hu)⟩
theorem deep_split(hI:Inv F m){s t:Nat}{ob:Ob}(hs:QC m s ob)(ha:ob.arr=false)(ht:m.σ t=none){i j z:Nat}{x:List DV}{l:List (List DV)}(hx:ob.els[i]?=some x)(hj:x[j]?=some (.dp z l)) :
  ∃ m' e g cap u,m'.w=m.w/\m'.M=m.M/\Inv F m'/\Loc [s,t] m m'/\m.σ s=some (some e)/\e.blk=some (g,cap)/\m.w.cell? ⟨g,i * ob.esz+j,none⟩=some u/\Rep m' u (.own t 0 l.length) /\
   QC m' s { ob with els:=setC ob.els i j (.own t 0 l.length) }/\QC m' t ⟨z,true,ob.frz,l⟩:=by
 obtain ⟨e,h1,h2,h3,h4⟩:=hs
 have hst:s≠t:=λh=>by subst h;rw [h1] at ht;cases ht
 cases hb:e.blk with
 | none =>
  rw [hb] at h4
  rw [h4.1] at hx
  simp at hx
 | some p =>
  obtain ⟨g,cap⟩:=p
  rw [hb] at h4
  obtain ⟨r,B,d1,d2⟩:=h4
  obtain ⟨u,u1,u2⟩:=d1 i x j z l hx hj
  let e':Ent:={ e with inn:=λk=>e.inn k/\B i j≠some k }
  have key:∃ et:Ent,et.esz=z/\et.mu=e.mu/\et.inn=noI/\(∀ k,et.has k->B i j=some k/\e.inn k)/\(∀ m':Mem,m'.w=m.w->Ext m m'->m'.σ t=some (some et)->Rep m' u (.own t 0 l.length)/\QC m' t ⟨z,true,ob.frz,l⟩):=by
   cases hB:B i j with
   | none =>
    rw [hB] at u2
    obtain ⟨rfl,rfl,hz⟩:=u2
    exact ⟨⟨z,none,e.mu,noI⟩,rfl,rfl,rfl,λk h=>by rcases h with ⟨c,h⟩ | h;cases h;exact h.elim,λm' hw he hσ=>⟨.ownNil hσ rfl,⟨_,hσ,rfl,h3,rfl,hz⟩⟩⟩
   | some b =>
    rw [hB] at u2
    obtain ⟨q1,cp,rfl,q3⟩:=u2
    refine ⟨⟨z,some (b,cp),e.mu,noI⟩,rfl,rfl,rfl,λk h=>?_,λm' hw he hσ=>⟨?_,⟨_,hσ,rfl,h3,?_⟩⟩⟩
    ·rcases h with ⟨c,h⟩ | h
     ·injection h with h
      injection h with h _
      subst h
      exact ⟨rfl,q1⟩
     ·exact h.elim
    ·have:=Rep.own (m:=m') (off:=0) (len:=l.length) hσ rfl (by have:=q3.len;dsimp only at this ⊢;omega) q3.max
     simpa using this
    ·have row:Row m' ⟨z,true,ob.frz,l⟩ b cp:=QbH q3 hw rfl rfl q3.sz (λi x j d u hx hd hu=>by
      obtain ⟨u',k1,k2⟩:=Jq q3 hx hd
      rw [show i * (⟨z,true,false,l⟩:Ob).esz+j=i * z+j from rfl] at k1 hu
      rw [k1] at hu
      injection hu with hu
      subst hu
      exact k2.ext he)
     exact ⟨row,row.deep rfl _⟩
  obtain ⟨et,t1,t2,t3,t4,t5⟩:=key
  have one:∀ s1∈[s,t],∀ e1,ZN (ZN m.σ s (some e')) t (some et) s1=some (some e1)->(s1=s/\e1=e')\/(s1=t/\e1=et):=λs1 hs1 e1 h=>by
   rcases Wv.1 hs1 with rfl | hs1
   ·rw [Za _ _ hst,Qh] at h
    injection h with h
    injection h with h
    exact .inl ⟨rfl,h.symm⟩
   ·obtain rfl:s1=t:=by simpa using hs1
    rw [Qh] at h
    injection h with h
    injection h with h
    exact .inr ⟨rfl,h.symm⟩
  have sub:∀ k,e'.has k->e.has k/\B i j≠some k:=λk h=>by
   rcases h with ⟨c,h⟩ | h
   ·refine ⟨.inl ⟨c,h⟩,λhB=>?_⟩
    have h:e.blk=some (k,c):=h
    rw [hb] at h
    injection h with h
    injection h with h _
    subst h
    rw [hB] at u2
    exact hI.wf s e _ cap h1 hb u2.1
   ·exact ⟨.inr h.1,h.2⟩
  have hT:=turn hI [s,t] m.w (ZN (ZN m.σ s (some e')) t (some et)) rfl rfl rfl (Wo _) (λ_ _ _=>rfl)
   (λk hk=>by rw [Za _ _ (λh=>hk (by simp [h])),Za _ _ (λh=>hk (by simp [h]))])
   (λs1 hs1 x0 hx0=>by
    rcases Wv.1 hs1 with rfl | hs1
    ·rw [h1] at hx0
     injection hx0 with hx0
     subst hx0
     exact ⟨_,by rw [Za _ _ hst,Qh],λe1 h=>by injection h with h;subst h;exact ⟨e,rfl,rfl,rfl⟩⟩
    ·obtain rfl:s1=t:=by simpa using hs1
     rw [ht] at hx0;cases hx0)
   (λs1 hs1 e1 k g1 g2=>by
    refine .inl ⟨s,Os,e,h1,?_⟩
    rcases one s1 hs1 e1 g1 with ⟨rfl,rfl⟩ | ⟨rfl,rfl⟩
    ·obtain ⟨p1,p2⟩:=sub k g2
     refine ⟨p1,λh=>h,λs2 hs2 e2 q1 q2=>?_⟩
     rcases one s2 hs2 e2 q1 with ⟨rfl,_⟩ | ⟨rfl,rfl⟩
     ·rfl
     ·exact absurd (t4 k q2).1 p2
    ·obtain ⟨p1,p2⟩:=t4 k g2
     refine ⟨.inr p2,λh=>by rw [<- t2];exact h,λs2 hs2 e2 q1 q2=>?_⟩
     rcases one s2 hs2 e2 q1 with ⟨rfl,rfl⟩ | ⟨rfl,_⟩
     ·exact absurd p1 (sub k q2).2
     ·rfl)
   (λs1 hs1 e1 g0 c0 g1 g2=>by
    rcases one s1 hs1 e1 g1 with ⟨rfl,rfl⟩ | ⟨rfl,rfl⟩
    ·exact λh=>hI.wf s1 e g0 c0 h1 g2 h.1
    ·rw [t3];exact id)
  have hσs:(ZN (ZN m.σ s (some e')) t (some et)) s=some (some e'):=by rw [Za _ _ hst,Qh]
  obtain ⟨v1,v2⟩:=t5 ⟨m.w,m.M,ZN (ZN m.σ s (some e')) t (some et)⟩ rfl hT.2.toExt (Qh _ _ _)
  refine ⟨⟨m.w,m.M,ZN (ZN m.σ s (some e')) t (some et)⟩,e,g,cap,u,rfl,rfl,hT.1,hT.2,h1,hb,u1,v1,⟨e',hσs,h2,h3,?_⟩,v2⟩
  show match e.blk with | none=>_ | some (g,cap)=>_
  rw [hb]
  refine ⟨QbH (ob':={ ob with els:=setC ob.els i j (.own t 0 l.length) }) r rfl rfl setC_len (λi' x' h=>setC_sz hx r.sz h) (λi' x' j' d' u' q1 q2 q3=>?_),B,λi' x' j' z' l' q1 q2=>?_,λi1 j1 i2 j2 b hb=>d2 i1 j1 i2 j2 b hb.1⟩
  ·dsimp only at q1 ⊢
   rcases QdD hx hj q1 q2 with ⟨rfl,rfl,rfl⟩ | ⟨_,x0,k1,k2⟩
   ·rw [u1] at q3
    injection q3 with q3
    subst q3
    obtain ⟨u0,w1,w2⟩:=Jq r hx hj
    rw [u1] at w1
    injection w1 with w1
    subst w1
    refine ⟨w2.1,?_⟩
    rw [ha]
    exact v1
   ·obtain ⟨u0,w1,w2⟩:=Jq r k1 k2
    rw [q3] at w1
    injection w1 with w1
    subst w1
    exact w2.ext hT.2.toExt
  ·dsimp only at q1 ⊢
   rcases QdD hx hj q1 q2 with ⟨_,_,h⟩ | ⟨hne,x0,k1,k2⟩
   ·cases h
   ·obtain ⟨u0,w1,w2⟩:=d1 i' x0 j' z' l' k1 k2
    refine ⟨u0,w1,?_⟩
    cases hB:B i' j' with
    | none=>rw [hB] at w2;exact w2
    | some b =>
     rw [hB] at w2
     obtain ⟨p1,cp,p2,p3⟩:=w2
     exact ⟨⟨p1,λh=>hne (d2 i' j' i j b p1 hB h)⟩,cp,p2,p3.ext hT.2.toExt rfl⟩
theorem deep_join(hI:Inv F m){s t:Nat}{ob:Ob}{z:Nat}{l:List (List DV)}(hs:QC m s ob)(ha:ob.arr=false)(hf:ob.frz=false)(hh:QC m t ⟨z,true,false,l⟩)(hst:s≠t){i j:Nat}{x:List DV}(hx:ob.els[i]?=some x)(hj:x[j]?=some (.own t 0 l.length)) :
  ∃ m',m'.w=m.w/\m'.M=m.M/\Inv F m'/\Loc [s,t] m m'/\QC m' s { ob with els:=setC ob.els i j (.dp z l) }/\m'.σ t=some none:=by
 obtain ⟨e,h1,h2,h3,h4⟩:=hs
 cases hb:e.blk with
 | none =>
  rw [hb] at h4
  rw [h4.1] at hx
  simp at hx
 | some p =>
  obtain ⟨g,cap⟩:=p
  rw [hb] at h4
  obtain ⟨r,B,d1,d2⟩:=h4
  obtain ⟨u,u1,u2⟩:=Jq r hx hj
  have u3:Rep m u (.own t 0 l.length):=by have:=u2.2;rw [ha] at this;exact this
  obtain ⟨et,t1,t2,t3,t4⟩:=Ji u3 hh
  let e':Ent:={ e with inn:=λk=>e.inn k\/∃ c,et.blk=some (k,c) }
  have hne:∀ k,e.has k->∀ c,et.blk≠some (k,c):=λk hk c h=>hst (hI.inj s t e et k h1 t1 hk (Ent.has_blk h))
  have one:∀ s1∈[s,t],∀ e1,ZN (ZN m.σ t none) s (some e') s1=some (some e1)->s1=s/\e1=e':=λs1 hs1 e1 h=>by
   rcases Wv.1 hs1 with rfl | hs1
   ·rw [Qh] at h
    injection h with h
    injection h with h
    exact ⟨rfl,h.symm⟩
   ·obtain rfl:s1=t:=by simpa using hs1
    rw [Za _ _ (λh=>hst h.symm),Qh] at h
    cases h
  have hT:=turn hI [s,t] m.w (ZN (ZN m.σ t none) s (some e')) rfl rfl rfl (Wo _) (λ_ _ _=>rfl)
   (λk hk=>by rw [Za _ _ (λh=>hk (by simp [h])),Za _ _ (λh=>hk (by simp [h]))])
   (λs1 hs1 x0 hx0=>by
    rcases Wv.1 hs1 with rfl | hs1
    ·rw [h1] at hx0
     injection hx0 with hx0
     subst hx0
     exact ⟨_,Qh _ _ _,λe1 h=>by injection h with h;subst h;exact ⟨e,rfl,rfl,rfl⟩⟩
    ·obtain rfl:s1=t:=by simpa using hs1
     exact ⟨none,by rw [Za _ _ (λh=>hst h.symm),Qh],λe1 h=>by cases h⟩)
   (λs1 hs1 e1 k g1 g2=>by
    obtain ⟨rfl,rfl⟩:=one s1 hs1 e1 g1
    have un:∀ s2∈[s1,t],∀ e2,ZN (ZN m.σ t none) s1 (some e') s2=some (some e2)->e2.has k->s2=s1:=λs2 hs2 e2 q1 _=>(one s2 hs2 e2 q1).1
    rcases g2 with g2 | g2 | g2
    ·exact .inl ⟨s1,Os,e,h1,.inl g2,λh=>h,un⟩
    ·exact .inl ⟨s1,Os,e,h1,.inr g2,λh=>h,un⟩
    ·exact .inl ⟨t,Os,et,t1,.inl g2,λ_=>by rw [t3];rfl,un⟩)
   (λs1 hs1 e1 g0 c0 g1 g2=>by
    obtain ⟨rfl,rfl⟩:=one s1 hs1 e1 g1
    rintro (h | ⟨c,h⟩)
    ·exact hI.wf s1 e g0 c0 h1 g2 h
    ·exact hne g0 (Ent.has_blk g2) c h)
  have hcell:DpV ⟨m.w,m.M,ZN (ZN m.σ t none) s (some e')⟩ e'.inn u z l (et.blk.map (·.1)):=by
   rcases t4 with ⟨g',cap',k4,rfl,k5,k6⟩ | ⟨k4,rfl,_,k5,k6,k7⟩
   ·rw [k4]
    refine ⟨.inr ⟨cap',k4⟩,cap',Os,k6.ext hT.2.toExt rfl⟩
   ·rw [k4]
    exact ⟨rfl,k6,k7⟩
  refine ⟨⟨m.w,m.M,ZN (ZN m.σ t none) s (some e')⟩,rfl,rfl,hT.1,hT.2,⟨e',Qh _ _ _,h2,h3,?_⟩,by show ZN _ _ _ t=_;rw [Za _ _ (λh=>hst h.symm),Qh]⟩
  show match e.blk with | none=>_ | some (g,cap)=>_
  rw [hb]
  classical
  refine ⟨QbH (ob':={ ob with els:=setC ob.els i j (.dp z l) }) r rfl rfl setC_len (λi' x' h=>setC_sz hx r.sz h) (λi' x' j' d' u' q1 q2 q3=>?_),
   λi' j'=>if i'=i/\j'=j then et.blk.map (·.1) else if (B i' j').isSome/\B i' j'=et.blk.map (·.1) then none else B i' j',λi' x' j' z' l' q1 q2=>?_,λi1 j1 i2 j2 b hbb q1 q2=>?_⟩
  ·dsimp only at q1 ⊢
   rcases QdD hx hj q1 q2 with ⟨rfl,rfl,rfl⟩ | ⟨_,x0,k1,k2⟩
   ·rw [u1] at q3
    injection q3 with q3
    subst q3
    refine ⟨u2.1,?_⟩
    rw [ha]
    exact .dp u
   ·obtain ⟨u0,w1,w2⟩:=Jq r k1 k2
    rw [q3] at w1
    injection w1 with w1
    subst w1
    exact w2.ext hT.2.toExt
  ·dsimp only at q1 ⊢
   rcases QdD hx hj q1 q2 with ⟨rfl,rfl,hd⟩ | ⟨hne',x0,k1,k2⟩
   ·injection hd with hd1 hd2
    subst hd1
    subst hd2
    exact ⟨u,u1,by rw [if_pos ⟨rfl,rfl⟩];exact hcell⟩
   ·obtain ⟨u0,w1,w2⟩:=d1 i' x0 j' z' l' k1 k2
    refine ⟨u0,w1,?_⟩
    rw [if_neg hne']
    cases hB:B i' j' with
    | none=>rw [hB] at w2;rw [if_neg (λh=>by simp at h)];exact w2
    | some b =>
     rw [hB] at w2
     obtain ⟨p1,cp,p2,p3⟩:=w2
     rw [if_neg (λh=>by
      cases hbt:et.blk with
      | none=>rw [hbt] at h;simp at h
      | some q =>
       obtain ⟨b',c'⟩:=q
       rw [hbt] at h
       have:=h.2
       simp only [Wu,Wt] at this
       subst this
       exact hne b (.inr p1) c' hbt)]
     exact ⟨.inl p1,cp,p2,p3.ext hT.2.toExt rfl⟩
  ·dsimp only at q1 q2
   have other:∀ {i' j' b},¬ (i'=i/\j'=j)->(if (B i' j').isSome/\B i' j'=et.blk.map (·.1) then none else B i' j')=some b->B i' j'=some b/\et.blk.map (·.1)≠some b:=λ{i' j' b} _ h=>by
    split at h
    ·cases h
    ·rename_i hq
     exact ⟨h,λh'=>hq ⟨by rw [h];rfl,by rw [h,h']⟩⟩
   by_cases e1:i1=i/\j1=j
   ·rw [if_pos e1] at q1
    by_cases e2:i2=i/\j2=j
    ·exact ⟨e1.1.trans e2.1.symm,e1.2.trans e2.2.symm⟩
    ·rw [if_neg e2] at q2
     exact absurd q1 (other e2 q2).2
   ·rw [if_neg e1] at q1
    obtain ⟨k1,k2⟩:=other e1 q1
    by_cases e2:i2=i/\j2=j
    ·rw [if_pos e2] at q2
     exact absurd q2 k2
    ·rw [if_neg e2] at q2
     obtain ⟨k3,_⟩:=other e2 q2
     have hin:e.inn b:=by
      rcases hbb with h | ⟨c,h⟩
      ·exact h
      ·rw [h] at k2;exact absurd rfl k2
     exact d2 i1 j1 i2 j2 b hin k1 k3
theorem holds_unarr{s z:Nat}{f:Bool}{els:List (List DV)}(hs:QC m s ⟨z,true,f,els⟩):QC m s ⟨z,false,f,els⟩:=by
 obtain ⟨e,h1,h2,h3,h4⟩:=hs
 refine ⟨e,h1,h2,h3,?_⟩
 cases hb:e.blk with
 | none=>rw [hb] at h4;exact h4
 | some p =>
  obtain ⟨g,cap⟩:=p
  rw [hb] at h4
  obtain ⟨r,_⟩:=h4
  refine ⟨QbH r rfl rfl rfl r.sz λi x j d u hx hd hu=>?_,Deep.flat λi x j z' xs hx hd=>?_⟩
  ·obtain ⟨u0,w1,w2⟩:=Jq r hx hd
   dsimp only at hu w1
   rw [hu] at w1
   injection w1 with w1
   subst w1
   exact ⟨w2.1,.pure w2.2⟩
  ·obtain ⟨u0,w1,w2⟩:=Jq r hx hd
   cases w2.2
end
section
variable{P:Program}{nt n0:Nat}{env:Env}{sto:Sto}{nxt:Nat}
theorem ZJ.att{s t z z0 i j:Nat}{x:List DV}{els els':List (List DV)}{l:List (List DV)}(hs:sto.get s=some ⟨z0,false,false,els⟩)(ht:sto.get t=some ⟨z,true,false,l⟩)(hst:Nat.beq s t=false)(hx:els[i]?=some x)(hj:x[j]?=some (.own t 0 l.length))(he:setC els i j (.dp z l)=els') :
  ZJ n0 ⟨env,sto,nxt⟩ ⟨env,(s,⟨z0,false,false,els'⟩) :: sto.drop t,nxt⟩:=λC _ a w hS=>by
 subst he
 have hst':s≠t:=YC hst
 obtain ⟨m,rfl,hm,hF⟩:=hS
 obtain ⟨m',k1,k2,k3,k4,k5,k6⟩:=deep_join hm.inv (hm.sto s _ hs) rfl rfl (hm.sto t _ ht) hst' hx hj
 refine ⟨m',k1,⟨k3,k2.trans hm.M,hm.size,hm.defers,hm.org.trans k4.ent,hm.lim0,λk=>(hm.env k).ext k4.toExt,λs' ob hs'=>?_⟩,λs' hs'=>?_⟩
 ·simp only [Sto.get_cons,Sto.drop_get] at hs'
  split at hs'
  ·rename_i h
   subst h
   injection hs' with hs'
   subst hs'
   exact k5
  ·rename_i h
   split at hs'
   ·cases hs'
   ·rename_i h2
    exact QC.loc hm.inv k4 (by simp [h,h2]) (hm.sto s' ob hs')
 ·have h1:=hF s' hs'
  have e1:s'≠s:=λh=>by subst h;obtain ⟨e,he,_⟩:=hm.sto s' _ hs;rw [h1] at he;cases he
  have e2:s'≠t:=λh=>by subst h;obtain ⟨e,he,_⟩:=hm.sto s' _ ht;rw [h1] at he;cases he
  rw [k4.same s' (by simp [e1,e2])]
  exact h1
theorem ZJ.tell{s:Nat}{ob ob':Ob}(hs:sto.get s=some ob)(h:∀ m:Mem,QC m s ob->QC m s ob'):ZJ n0 ⟨env,sto,nxt⟩ ⟨env,(s,ob') :: sto,nxt⟩:=λC _ a w hS=>by
 obtain ⟨m,rfl,hm,hF⟩:=hS
 refine ⟨m,rfl,⟨hm.inv,hm.M,hm.size,hm.defers,hm.org,hm.lim0,hm.env,λs' ob1 hs'=>?_⟩,hF⟩
 simp only [Sto.get_cons] at hs'
 split at hs'
 ·rename_i h1
  subst h1
  injection hs' with hs'
  subst hs'
  exact h m (hm.sto _ _ hs)
 ·exact hm.sto s' ob1 hs'
theorem ZJ.unarr{s z0:Nat}{els:List (List DV)}(hs:sto.get s=some ⟨z0,true,false,els⟩):ZJ n0 ⟨env,sto,nxt⟩ ⟨env,(s,⟨z0,false,false,els⟩) :: sto,nxt⟩:=ZJ.tell hs λm h=>holds_unarr h
end
section
variable{P:Program}{F:Fm}{m:Mem}{a:Act}{env:Env}{sto:Sto}{nxt:Nat}{o:Oper}
theorem r_ldD{t:Nat}{p:Operand}{td:TyD}{s i j z:Nat}{ob:Ob}{x:List DV}{l:List (List DV)}(ho:o.op = .load t p)(ht:Qv P t td)(hag:td.agg=false)(hsz:td.size=1)(hp:opd env p = .ptr s i j)(hs:sto.get s=some ob)(ha:ob.arr=false)(hx:ob.els[i]?=some x)(hj:x[j]?=some (.dp z l)) :
  Qq P o env sto nxt ⟨.own nxt 0 l.length,[(s,some { ob with els:=setC ob.els i j (.own nxt 0 l.length) }),(nxt,some ⟨z,true,ob.frz,l⟩)],[s],1⟩:=.ran λF m a hI hE hH hF=>by
 have h1:=hE p (by simp [ho,Op.operands])
 rw [hp] at h1
 have hS:=hH s Os ob hs
 have hn:=hF nxt (Wo _) (by show nxt < nxt+1;omega)
 obtain ⟨m',e,g,cap,u,k1,k2,k3,k4,k5,k6,k7,k8,k9,k10⟩:=deep_split hI hS ha hn hx hj
 obtain ⟨e2,g2,cap2,q1,_,_,q2,q3,q4⟩:=QaJ h1 hS
 rw [k5] at q1
 injection q1 with q1
 injection q1 with q1
 subst q1
 rw [k6] at q2
 injection q2 with q2
 injection q2 with q2 q2'
 subst q2
 have hca:Qcl m' g (i * ob.esz+j) [.own nxt 0 l.length]:=λj' d hd=>by
  cases j' with
  | zero =>
   simp only [WD,Wt] at hd
   subst hd
   exact ⟨u,by rw [k1];exact k7,k8⟩
  | succ j'=>simp at hd
 obtain ⟨v,v1,v2⟩:=load_ok (P:=P) ht hca (y:=.own nxt 0 l.length) (by unfold ldD;rw [hag,hsz];rfl)
 rw [k1] at v1
 refine ⟨v,m',.inl (by rw [k1];simp [execOp,ho,q3,v1]),k3,k4,v2,λp hp=>?_⟩
 rcases Wv.1 hp with rfl | hp
 ·exact k9
 ·obtain rfl:=Wl.1 hp
  exact k10
theorem r_litR{t e len:Nat}{parts:Array (Nat×Operand)}{l:List (Nat×Operand)}{tt td:TyD}{cells:List DV}{r r2:List Nat}(ho:o.op = .buildSlice t len parts)(hp:parts=l.toArray)(ht:Qv P t tt)(hk:tt.k = .slice e)(he:Qv P e td)
  (hz:td.zero.length=td.size)(h0:0 < td.size)(h1:0 < len)(hm:len * td.size<=16777216)
  (h:Qb9 sto (λi=>some (i * td.size,td.size)) (QbZ td len) (l.map λp=>(p.1,opd env p.2))=some (cells,r))(hb:boxF sto cells=some r2) :
  Qq P o env sto nxt ⟨.own nxt 0 len,[(nxt,some ⟨td.size,false,false,J8 len td.size cells⟩)],r++r2,1⟩:=.ran λF m a hI hE hH hF=>by
 subst hp
 obtain ⟨i,z,z1,z2,z3,z4,z5,z6,_⟩:=QaG he
 have hu:=ht.kind
 rw [hk] at hu
 have hsz:z.cells.size=td.size:=by rw [<- hz,<- z5];simp
 have hHr:QJ m sto r:=λs hs=>hH s (We _ hs)
 have hHu:QJ m sto r2:=λs hs=>hH s (Wh _ hs)
 have hzr:Reps m (madeCells z.cells (len * td.size)).toList (QbZ td len):=by
  refine ⟨by rw [Vv,size_madeCells];simp [QbZ],λj v d hv hd=>?_⟩
  have hj:j < len * td.size:=by
   rcases Wq j (len * td.size) with h' | h'
   ·exact h'
   ·rw [Wf (by simpa [QbZ] using h')] at hd;cases hd
  have hv':(madeCells z.cells (len * td.size))[j]?=some v:=by simpa using hv
  rw [QaL Oo hj,hsz] at hv'
  unfold QbZ at hd
  rw [Wg,Vp hj] at hd
  injection hd with hd
  have hv2:z.cells.toList[j % td.size]?=some v:=by simpa using hv'
  rw [<- hd]
  dsimp only
  rw [<- z5,Vx,Wg,hv2]
  exact .pure (.lit v (z6 v (by simpa using List.mem_of_getElem? hv2)))
 obtain ⟨vs,k1,k2⟩:=QdT (parts:=l) (λp hp=>hE p.2 (by simp only [ho,Op.operands];simp;exact ⟨p.1,hp⟩)) hzr h hHr
 rw [UB] at k1
 have hcl:cells.length=len * td.size:=by rw [fillD_len h];simp [QbZ]
 have hrun:=run_buildSlice (P:=P) m.w t e len (l.map λp=>(p.1,a.eval p.2)).toArray vs.toArray i z hu z1 z4 (by rw [z2];omega) (by rw [z2];have:=Nat.mul_pos h1 h0;omega) (by
  rw [z2]
  have:(Array.range (len * td.size)).map (λx=>z.cells[x % z.cells.size]!)=madeCells z.cells (len * td.size):=rfl
  rw [this]
  simpa using k1)
 have hmx:len<=maxLen:=by
  have:len<=len * td.size:=YB _ h0
  unfold maxLen
  omega
 refine Ran.new hI (hF nxt (Wo _) (by show nxt < nxt+1;omega)) (cur:=vs.toArray) (T:=e) (v:=.slice (some ⟨m.w.heap.size,0,none⟩) len len) (cap:=len) ?_ (λm' h=>?_) rfl (λm' he' hg=>?_) (.inr λi x j z' xs q1 q2=>?_)
 ·simp only [execOp,ho]
  rw [show (l.toArray.map λ(x:Nat×Operand)=>match x with | (i,x)=>(i,a.eval x))=(l.map λp=>(p.1,a.eval p.2)).toArray from by simp]
  rw [Sem.run_bind]
  show ((Instr.buildSlice t len _).run P m.w).andThen _=_
  rw [hrun]
  rfl
 ·have:=Rep.own (m:=m') (off:=0) (len:=len) h rfl Oo hmx
  simpa using this
 ·refine Qb3 he' (ds:=cells) (arr:=false) k2.1 (λj v d hv hd=>⟨box_one (Qc1 hb) hHu j d v hd (k2.2 j v d hv hd),k2.2 j v d hv hd⟩) hg (by rw [hcl]) h0 hmx (by simp [J8]) (λj x hx=>?_)
  have hj:j < len:=by
   rcases Wq j len with h' | h'
   ·exact h'
   ·rw [Wf (by simpa [J8] using h')] at hx;cases hx
  unfold J8 at hx
  rw [Wg,Vp hj] at hx
  injection hx with hx
  subst hx
  have hle:(j+1) * td.size<=len * td.size:=WG _ hj
  rw [VA] at hle
  refine ⟨by rw [Ws,WY,hcl];omega,λq d hd=>?_⟩
  rw [W2] at hd
  split at hd
  ·rwa [Ve] at hd
  ·cases hd
 ·dsimp only at q1
  have hi:i < len:=by
   rcases Wq i len with h' | h'
   ·exact h'
   ·rw [Wf (by simpa [J8] using h')] at q1;cases q1
  unfold J8 at q1
  rw [Wg,Vp hi] at q1
  injection q1 with q1
  subst q1
  rw [W2] at q2
  split at q2
  ·rw [Ve] at q2
   exact (Qc1 hb).nodp _ _ _ q2
  ·cases q2
theorem deep_flat(hI:Inv F m){s z:Nat}{f:Bool}{els:List (List DV)}(hs:QC m s ⟨z,false,f,els⟩)(hd:∀ x∈els,∀ d∈x,dpB d=true) :
  ∃ m',m'.w=m.w/\m'.M=m.M/\Inv F m'/\Loc [s] m m'/\QC m' s ⟨z,true,f,els.map (·.map undp)⟩:=by
 obtain ⟨e,h1,h2,h3,h4⟩:=hs
 obtain ⟨e',he'⟩:∃ e':Ent,e'={ e with inn:=noI }:=⟨_,rfl⟩
 have f1:e'.esz=e.esz:=by rw [he']
 have f2:e'.blk=e.blk:=by rw [he']
 have f3:e'.mu=e.mu:=by rw [he']
 have f4:e'.inn=noI:=by rw [he']
 clear he'
 have one:∀ s1∈[s],∀ e1,ZN m.σ s (some e') s1=some (some e1)->s1=s/\e1=e':=λs1 hs1 e1 h=>by
  obtain rfl:s1=s:=by simpa using hs1
  rw [Qh] at h
  injection h with h
  injection h with h
  exact ⟨rfl,h.symm⟩
 have hT:=turn hI [s] m.w (ZN m.σ s (some e')) rfl rfl rfl (Wo _) (λ_ _ _=>rfl) (λk hk=>Za _ _ (by simpa using hk))
  (λs1 hs1 x hx=>by
   obtain rfl:s1=s:=by simpa using hs1
   rw [h1] at hx
   injection hx with hx
   subst hx
   exact ⟨_,Qh _ _ _,λe1 h=>by injection h with h;subst h;exact ⟨e,rfl,f1,f2⟩⟩)
  (λs1 hs1 e1 k g1 g2=>by
   obtain ⟨rfl,rfl⟩:=one s1 hs1 e1 g1
   refine .inl ⟨s1,Os,e,h1,?_,λh=>by rw [<- f3];exact h,λs2 hs2 e2 q _=>(one s2 hs2 e2 q).1⟩
   rcases g2 with ⟨c,g2⟩ | g2
   ·exact .inl ⟨c,by rw [<- f2];exact g2⟩
   ·rw [f4] at g2;exact g2.elim)
  (λs1 hs1 e1 k c g1 _=>by
   obtain ⟨rfl,rfl⟩:=one s1 hs1 e1 g1
   rw [f4];exact id)
 refine ⟨⟨m.w,m.M,ZN m.σ s (some e')⟩,rfl,rfl,hT.1,hT.2,⟨_,Qh _ _ _,by rw [f1];exact h2,by rw [f3];exact h3,?_⟩⟩
 rw [f2]
 cases hb:e.blk with
 | none=>rw [hb] at h4;exact ⟨by rw [show els=[] from h4.1];rfl,h4.2⟩
 | some p =>
  obtain ⟨g,cap⟩:=p
  rw [hb] at h4
  obtain ⟨r,B,d1,d2⟩:=h4
  have hno:∀ k,(⟨m.w,m.M,ZN m.σ s (some e')⟩:Mem).no k->m.no k:=λk h=>by
   rcases h with h | ⟨s',e',q1,q2,q3⟩
   ·exact .inl h
   ·dsimp only at q1
    by_cases hss:s'=s
    ·subst hss
     rw [Qh] at q1
     injection q1 with q1
     injection q1 with q1
     subst q1
     refine .inr ⟨s',e,h1,by rw [<- f3];exact q2,?_⟩
     rcases q3 with ⟨c,q3⟩ | q3
     ·exact .inl ⟨c,by rw [<- f2];exact q3⟩
     ·rw [f4] at q3;exact q3.elim
    ·rw [Za _ _ hss] at q1
     exact .inr ⟨s',e',q1,q2,q3⟩
  have hin:∀ b,e.inn b->¬ (⟨m.w,m.M,ZN m.σ s (some e')⟩:Mem).no b:=λb hbi h=>by
   rcases h with h | ⟨s',e',q1,q2,q3⟩
   ·exact (hI.at_ s e b h1 (.inr hbi)).2.1 h
   ·dsimp only at q1
    by_cases hss:s'=s
    ·subst hss
     rw [Qh] at q1
     injection q1 with q1
     injection q1 with q1
     subst q1
     rcases q3 with ⟨c,q3⟩ | q3
     ·exact hI.wf s' e b c h1 (by rw [<- f2];exact q3) hbi
     ·rw [f4] at q3;exact q3
    ·rw [Za _ _ hss] at q1
     exact hss (hI.inj s s' e e' b h1 q1 (.inr hbi) q3).symm
  have row:Row ⟨m.w,m.M,ZN m.σ s (some e')⟩ ⟨z,true,f,els.map (·.map undp)⟩ g cap:=QbH r rfl rfl Os (λi x hx=>?_) (λi x j d u hx hdd hu=>?_)
  ·exact ⟨row,row.deep rfl _⟩
  ·rw [Wg] at hx
   cases hq:els[i]? with
   | none=>rw [hq] at hx;cases hx
   | some x0 =>
    rw [hq] at hx
    injection hx with hx
    subst hx
    rw [Wb]
    exact r.sz i x0 hq
  ·rw [Wg] at hx
   cases hq:els[i]? with
   | none=>rw [hq] at hx;cases hx
   | some x0 =>
    rw [hq] at hx
    injection hx with hx
    subst hx
    rw [Wg] at hdd
    cases hq2:x0[j]? with
    | none=>rw [hq2] at hdd;cases hdd
    | some d0 =>
     rw [hq2] at hdd
     injection hdd with hdd
     subst hdd
     obtain ⟨u',w1,w2⟩:=Jq r hq hq2
     rw [hu] at w1
     injection w1 with w1
     subst w1
     refine ⟨w2.1,?_⟩
     have hr2:Rep m u d0:=w2.2
     have hp:∀ {v d},PRep m.w m.no v d->PRep m.w (⟨m.w,m.M,ZN m.σ s (some e')⟩:Mem).no v d:=λh=>PRep.ext (Wo _) (λk _ hk=>⟨rfl,λh=>hk (hno k h)⟩) h
     have hb:=hd x0 (Wp hq) d0 (Wp hq2)
     show PRep m.w _ u (undp d0)
     cases d0 with
     | lit v=>rw [hr2.lit_inv];exact .lit v hr2.lit_one
     | sl xs=>exact hp hr2.sl_inv
     | dp z' l =>
      obtain ⟨u',k1,k2⟩:=d1 i x0 j z' l hq hq2
      rw [hu] at k1
      injection k1 with k1
      subst k1
      cases hB:B i j with
      | none =>
       rw [hB] at k2
       obtain ⟨rfl,rfl,_⟩:=k2
       exact .nil _ _ (W9 _)
      | some b =>
       rw [hB] at k2
       obtain ⟨q1,cp,rfl,q3⟩:=k2
       have:=QaK (off:=0) (len:=l.length) q3 rfl (hin b q1) hno Os
       simpa [undp] using this
     | _=>cases hb
theorem news_mk{ob:Ob}{g cap len:Nat}(r:Row m ob g cap)(hl:len<=ob.els.length):∃ news:List Value,news.length=len * ob.esz/\(∀ j u,news[j]?=some u->m.w.cell? ((⟨g,0,none⟩:Addr).add j)=some u)/\(∀ u∈news,u.oneCell'=true) /\
  ∀ (i:Nat) y (j:Nat) d,(ob.els.take len)[i]?=some y->y[j]?=some d->∃ u,news[i * ob.esz+j]?=some u/\CRep m ob.arr u d:=by
 obtain ⟨cur,T,c1,c2,c3⟩:=r.cells
 have hpos:=r.pos
 have hfit:len * ob.esz<=cur.size:=by rw [c2];exact WG _ (Ur hl r.len)
 refine ⟨cur.toList.take (len * ob.esz),by rw [Ws,Vv];omega,λj u hu=>?_,λu hu=>?_,λi y j d hy hd=>?_⟩
 ·rw [W2] at hu
  split at hu
  ·rw [Jl,Vs,cell_of_row m.w g j cur T (0,0) c1];simpa using hu
  ·cases hu
 ·obtain ⟨p,hp⟩:=W6.1 hu
  rw [W2] at hp
  split at hp
  ·rename_i hlt
   have h1:p / ob.esz < len:=Vg (by rw [Vw];exact hlt)
   have h2:p % ob.esz < ob.esz:=UN _ hpos
   have hx:=Wa (show p / ob.esz < ob.els.length by omega)
   have hsz:=r.sz _ _ hx
   obtain ⟨u',k1,k2⟩:=c3 _ _ _ _ hx (Wa (show p % ob.esz < (ob.els[p / ob.esz]).length by omega))
   rw [Nat.div_add_mod' p ob.esz] at k1
   have:cur[p]?=some u:=by simpa using hp
   rw [k1] at this
   injection this with this
   subst this
   exact k2.1
  ·cases hp
 ·rw [W2] at hy
  split at hy
  ·rename_i hi
   obtain ⟨u,hu,hr⟩:=c3 i y j d hy hd
   have hsz:=r.sz i y hy
   have hj:=Qbn hd
   have hle:(i+1) * ob.esz<=len * ob.esz:=WG _ hi
   rw [VA] at hle
   exact ⟨u,by rw [Ul Oo];simpa using hu,hr⟩
  ·cases hy
def noDpB(els:List (List DV)):Bool:=els.all λx=>x.all λd=>match d with | .dp _ _=>false | _=>true
theorem noDpB_ok{els:List (List DV)}(h:noDpB els=true):∀ (i:Nat) x (j:Nat) z l,els[i]?=some x->x[j]?=some (.dp z l)->False:=λi x j z l hx hd=>by
 unfold noDpB at h
 have:=WL.1 h x (Wp hx)
 have:=WL.1 this _ (Wp hd)
 cases this
theorem r_appR{t e:Nat}{s x:Operand}{tt td:TyD}{k k2 len len2:Nat}{ob ob2:Ob}(ho:o.op = .call ⟨.builtin .append,#[s,x],#[t,t]⟩)(ht:Qv P t tt)(hk:tt.k = .slice e)(he:Qv P e td)(hs:opd env s = .own k 0 len)(hg:sto.get k=some ob)(hx:opd env x = .own k2 0 len2)(hg2:sto.get k2=some ob2)
  (hf:ob.frz=false)(ha:ob.arr=false)(hl:len<=ob.els.length)(hl2:len2<=ob2.els.length)(hez:ob.esz=td.size)(hez2:ob2.esz=td.size)(hnd:noDpB (ob2.els.take len2)=true)(hz:td.zero.length=td.size)(h0:0 < td.size)(hb:(len+len2) * td.bytes<=140737488355328)(h63:len+len2<=maxLen) :
  Qq P o env sto nxt ⟨.own nxt 0 (len+len2),[(k,none),(nxt,some ⟨td.size,false,false,ob.els.take len++ob2.els.take len2⟩)],[k,k2],1⟩:=.ran λF m a hI hE hH hF=>by
 have h1:=hE s (by simp [ho,Op.operands,Call.operands])
 have h2:=hE x (by simp [ho,Op.operands,Call.operands])
 rw [hs] at h1
 rw [hx] at h2
 have hnew:=hF nxt (Wo _) (by show nxt < nxt+1;omega)
 have hHk:=hH k Os ob hg
 obtain ⟨en,k1,kz,k3,k4⟩:=Ji h1 hHk
 obtain ⟨en2,_,_,_,j4⟩:=Ji h2 (hH k2 Os ob2 hg2)
 have hmu:en.mu=true:=by rw [k3,hf];rfl
 have hne:k≠nxt:=λh=>by subst h;rw [hnew] at k1;cases k1
 have hsv:(∃ g cap,en.blk=some (g,cap)/\a.eval s = .slice (some ⟨g,0,none⟩) len cap/\len<=cap/\cap<=maxLen/\∃ cur T,m.w.heap[g]?=some (.cells cur T (0,0))/\cur.size=cap * td.size)\/(en.blk=none/\a.eval s = .slice none 0 0/\len=0):=by
  rcases k4 with ⟨g,cap,k4,hsv,k5,k6⟩ | ⟨k4,hsv,_,h,_⟩
  ·rw [UX,UW] at hsv
   obtain ⟨cur,T,c1,c2,_⟩:=k6.cells
   rw [hez] at c2
   exact .inl ⟨g,cap,k4,hsv,Oo,k6.max,cur,T,c1,c2⟩
  ·exact .inr ⟨k4,hsv,h⟩
 have hvn:∃ ad c,∃ news:List Value,a.eval x = .slice ad len2 c/\(len2=0\/∃ b off,ad=some ⟨b,off,none⟩/\news.length=len2 * td.size/\(∀ j u,news[j]?=some u->m.w.cell? ((⟨b,off,none⟩:Addr).add j)=some u)/\∀ u∈news,u.oneCell'=true) /\
   ∀ (i:Nat) y (j:Nat) d,(ob2.els.take len2)[i]?=some y->y[j]?=some d->∃ u,news[i * td.size+j]?=some u/\u.oneCell'=true/\Rep m u d:=by
  rcases j4 with ⟨g,cap,_,hv,_,r⟩ | ⟨_,hv,_,h,h',_⟩
  ·rw [UX] at hv
   obtain ⟨news,n1,n2,n3,n4⟩:=news_mk r hl2
   rw [hez2] at n1 n4
   refine ⟨_,_,news,hv,.inr ⟨g,0,rfl,n1,n2,n3⟩,λi y j d hy hd=>?_⟩
   obtain ⟨u,hu,hr⟩:=n4 i y j d hy hd
   refine ⟨u,hu,hr.1,?_⟩
   have:=hr.2
   split at this
   ·exact .pure this
   ·exact this
  ·subst h
   exact ⟨_,_,[],hv,.inl rfl,λi y j d hy=>by simp at hy⟩
 obtain ⟨ad,c,news,hv,hn,n4⟩:=hvn
 obtain ⟨v,w',hrun,w1,w2,w3,w4,w5,w6⟩:=app_raw ho ht hk he hsv hv hn hz h0 hb h63
 have hlt':(ob.els.take len).length=len:=by rw [Ws];omega
 have hlt2:(ob2.els.take len2).length=len2:=by rw [Ws];omega
 have upd:∀ {e':Ent},QC ⟨w',m.M,ZN (ZN m.σ k none) nxt (some e')⟩ nxt ⟨td.size,false,false,ob.els.take len++ob2.els.take len2⟩->∀ p∈[(k,none),(nxt,some (⟨td.size,false,false,ob.els.take len++ob2.els.take len2⟩:Ob))],Upd ⟨w',m.M,ZN (ZN m.σ k none) nxt (some e')⟩ p:=λq p hp=>by
  rcases Wv.1 hp with rfl | hp
  ·show ZN (ZN m.σ k none) nxt _ k=some none
   rw [Za _ _ hne,Qh]
  ·obtain rfl:=Wl.1 hp
   exact q
 rcases w6 with ⟨rfl,h6,h7⟩ | ⟨g',cap',cur',T',rfl,q1,q2,q3,q4,q5,q6,q7⟩
 ·have hT:=Qd1 hI k1 hmu hnew w' ⟨td.size,none,true,noI⟩ w1 w2 w3 w4 w5 (λg' c' h=>by cases h)
  refine ⟨_,⟨w',m.M,ZN (ZN m.σ k none) nxt (some ⟨td.size,none,true,noI⟩)⟩,.inl hrun,hT.1,hT.2,?_,upd ⟨_,Qh _ _ _,rfl,rfl,?_⟩⟩
  ·rw [h6,h7];exact .ownNil (Qh _ _ _) rfl
  ·rw [h6,h7];exact ⟨Os,h0⟩
 ·have hbi:∀ b,en.inn b->b≠g':=λb hb h=>by
   subst h
   rcases q1 with ⟨c',h⟩ | ⟨h,_⟩
   ·exact hI.wf k en b c' k1 h hb
   ·have:=(hI.at_ k en b k1 (.inr hb)).1;omega
  have hT:=turn_moveD hI k1 hmu hnew w' ⟨td.size,some (g',cap'),true,en.inn⟩ w1 w2 w3 w4 (λj hj h=>w5 j hj λc hc=>h (.inl ⟨c,hc⟩)) (λg1 h=>by
   rcases h with ⟨c',h⟩ | h
   ·injection h with h
    injection h with h1 h2
    subst h1
    rcases q1 with ⟨c',h⟩ | h
    ·exact .inl (.inl ⟨c',h⟩)
    ·exact .inr h
   ·exact .inl (.inr h)) (λg1 c' h hi=>by
   injection h with h
   injection h with h1 h2
   exact hbi g1 hi h1.symm)
  have old:∀ (i:Nat) x,(ob.els.take len)[i]?=some x->x.length=td.size/\ob.els[i]?=some x/\∀ (j:Nat) d,x[j]?=some d->∃ g cap u,en.blk=some (g,cap)/\Row m ob g cap/\cur'[i * td.size+j]?=some u/\m.w.cell? ⟨g,i * ob.esz+j,none⟩=some u/\CRep m false u d:=λi x hx=>by
   rw [W2] at hx
   split at hx
   ·rename_i hi
    rcases k4 with ⟨g,cap,k4,_,k5,k6⟩ | ⟨_,_,_,h,_⟩
    ·have hl:=k6.sz i x hx
     rw [hez] at hl
     refine ⟨hl,hx,λj d hd=>?_⟩
     obtain ⟨cur,T,c1,c2,c3⟩:=k6.cells
     obtain ⟨u,hu,hr⟩:=c3 i x j d hx hd
     have hj:=Qbn hd
     have hle:(i+1) * td.size<=len * td.size:=WG _ hi
     rw [VA] at hle
     rw [ha] at hr
     refine ⟨g,cap,u,k4,k6,?_,by rw [cell_of_row m.w g _ cur T (0,0) c1];exact hu,hr⟩
     rw [hez] at hu
     rw [q6 _ g cap cur T k4 c1 Oo];exact hu
    ·omega
   ·cases hx
  have row:Row ⟨w',m.M,ZN (ZN m.σ k none) nxt (some ⟨td.size,some (g',cap'),true,en.inn⟩)⟩ ⟨td.size,false,false,ob.els.take len++ob2.els.take len2⟩ g' cap':=row_twoR q4 q5 q3 h0 (by rw [hlt',hlt2];exact q2) (λi x hx=>?_) (λi y hy=>⟨?_,λj d hd=>?_⟩)
  ·refine ⟨_,_,.inl hrun,hT.1,hT.2,own_mem (Qh _ _ _) rfl q2 q3,upd (QC.of (Qh _ _ _) rfl rfl rfl row ?_)⟩
   cases hbk:en.blk with
   | none =>
    refine Deep.flat λi x j z l hx hd=>?_
    by_cases hi:i < (ob.els.take len).length
    ·dsimp only at hx
     rw [WK hi] at hx
     obtain ⟨_,_,k⟩:=old i x hx
     obtain ⟨_,_,_,h,_⟩:=k j _ hd
     rw [hbk] at h;cases h
    ·dsimp only at hx
     rw [WJ Oo] at hx
     exact noDpB_ok hnd _ _ _ _ _ hx hd
   | some p =>
    obtain ⟨g,cap⟩:=p
    obtain ⟨B,d1,d2⟩:=deep_get hHk k1 hbk
    refine ⟨B,λi x j z l hx hd=>?_,d2⟩
    dsimp only at hx ⊢
    by_cases hi:i < (ob.els.take len).length
    ·rw [WK hi] at hx
     obtain ⟨_,o1,kk⟩:=old i x hx
     obtain ⟨g2,cap2,u,o2,_,o3,o4,_⟩:=kk j _ hd
     rw [hbk] at o2
     injection o2 with o2
     injection o2 with o2 _
     subst o2
     obtain ⟨u',e1,e2⟩:=d1 i x j z l o1 hd
     rw [o4] at e1
     injection e1 with e1
     subst e1
     refine ⟨u,by rw [cell_of_row w' g' _ cur' T' (0,0) q4];exact o3,?_⟩
     cases hB:B i j with
     | none=>rw [hB] at e2;exact e2
     | some b =>
      rw [hB] at e2
      obtain ⟨p1,cp,p2,p3⟩:=e2
      refine ⟨p1,cp,p2,p3.ext hT.2.toExt ?_⟩
      exact w5 b (hI.at_ k en b k1 (.inr p1)).1 λc' hc=>hI.wf k en b c' k1 hc p1
    ·rw [WJ Oo] at hx
     exact (noDpB_ok hnd _ _ _ _ _ hx hd).elim
  ·obtain ⟨o1,_,k⟩:=old i x hx
   exact ⟨o1,λj d hd=>by
    obtain ⟨_,_,u,_,_,o3,_,o5⟩:=k j d hd
    exact ⟨u,o3,o5.ext hT.2.toExt⟩⟩
  ·rw [W2] at hy
   split at hy
   ·rcases j4 with ⟨g,cap,_,_,_,r⟩ | ⟨_,_,_,_,h,_⟩
    ·rw [<- hez2];exact r.sz i y hy
    ·rw [h] at hy;simp at hy
   ·cases hy
  ·obtain ⟨u,hu,hp1,hp2⟩:=n4 i y j d hy hd
   have hlt:i * td.size+j < news.length:=Qbn hu
   have hpos:0 < len2:=by have:=Qbn hy;omega
   refine ⟨u,?_,hp1,hp2.ext hT.2.toExt⟩
   rw [hlt',Vu,Ua,q7 hpos _ hlt]
   exact hu
end
theorem dpM{α:Type}{cd:α->List DV}{l:List α}(h:∀ a,(cd a).all dpB=true):∀ x∈l.map cd,∀ d∈x,dpB d=true:=λx hx d hd=>by
 obtain ⟨a,_,rfl⟩:=Wj.1 hx
 exact WL.1 (h a) d hd
theorem CvL.same{sto:Sto}{ρ:Ren}:∀ {l:List DV},(∀ d∈l,dpB d=true)->CvL sto ρ l l []
 | [],_=>.nil
 | d :: l,h=>by
  have h1:=h d (Wz ..)
  have h3:Cv sto ρ d d []:=by
   cases d with
   | lit v=>exact .lit
   | sl xs=>exact .sl
   | dp z l=>exact .dp
   | _=>cases h1
  exact .cons h3 (CvL.same λd hd=>h d (Wm _ hd))
theorem CvO.rowAt{α:Type}{cd:α->List DV}{l:List α}{i:Nat}{row row':List DV}{sto:Sto}{ρ:Ren}{z:Nat}{fz:Bool}{r:List Nat}(h:∀ a,(cd a).all dpB=true)(hr:CvL sto ρ row row' r):CvO sto ρ ⟨z,false,fz,(l.map cd).set i row⟩ ⟨z,false,fz,(l.map cd).set i row'⟩ r :=
 .rows Os (λj x y hx hy=>by
  by_cases hj:i=j
  ·subst hj
   have hlt:=Qbn hx
   rw [Ww] at hlt
   rw [WB hlt] at hx hy
   injection hx with hx
   injection hy with hy
   subst hx
   subst hy
   exact ⟨r,hr,λs hs=>hs⟩
  ·rw [WA hj] at hx hy
   rw [hx] at hy
   injection hy with hy
   subst hy
   exact ⟨[],CvL.same (dpM h x (Wp hx)),λs hs=>by cases hs⟩) hr.known
theorem Cv.dfzM{α:Type}{cd c:α->List DV}{l:List α}{sto:Sto}{ρ:Ren}{s len z:Nat}{fz:Bool}(h:sto.get s=some ⟨z,false,fz,l.map cd⟩)(h1:∀ a,(cd a).map undp=c a)(h2:∀ a,(cd a).all dpB=true)(hl:len=l.length):Cv sto ρ (.own s 0 len) (.sl (l.map c)) [s] :=
 .dfz h rfl (dpM h2) (by rw [hl];simp) (by
  show (l.map cd).map _=_
  rw [WS]
  exact WU λa _=>h1 a)
theorem ZJ.flat{α:Type}{cd c:α->List DV}{l:List α}{n0:Nat}{env:Env}{sto:Sto}{nxt s z:Nat}(hs:sto.get s=some ⟨z,false,false,l.map cd⟩)(h1:∀ a,(cd a).map undp=c a)(h2:∀ a,(cd a).all dpB=true):ZJ n0 ⟨env,sto,nxt⟩ ⟨env,(s,⟨z,true,false,l.map c⟩) :: sto,nxt⟩:=λC _ a w hS=>by
 obtain ⟨m,rfl,hm,hF⟩:=hS
 obtain ⟨m',k1,k2,k3,k4,k5⟩:=deep_flat hm.inv (hm.sto s _ hs) (dpM h2)
 have e:(l.map cd).map (·.map undp)=l.map c:=by rw [WS];exact WU λa _=>h1 a
 rw [e] at k5
 refine ⟨m',k1,⟨k3,k2.trans hm.M,hm.size,hm.defers,hm.org.trans k4.ent,hm.lim0,λk=>(hm.env k).ext k4.toExt,λs' ob hs'=>?_⟩,λs' hs'=>?_⟩
 ·simp only [Sto.get_cons] at hs'
  split at hs'
  ·rename_i h
   subst h
   injection hs' with hs'
   subst hs'
   exact k5
  ·rename_i h
   exact QC.loc hm.inv k4 (by simpa using h) (hm.sto s' ob hs')
 ·have h1:=hF s' hs'
  have e1:s'≠s:=λh=>by subst h;obtain ⟨e,he,_⟩:=hm.sto s' _ hs;rw [h1] at he;cases he
  rw [k4.same s' (by simpa using e1)]
  exact h1
inductive Grd(ops:Array Oper)(o:Oper)(env:Env):Prop
 | none:o.guard=none->Grd ops o env
 | yes {g t:Nat} {b:Bool}:o.guard=some (g,b)->(ops[g]?).bind (·.dst)=some t->env.get t = .lit (.bool b)->Grd ops o env
section
variable{P:Program}{env:Env}{sto:Sto}{nxt:Nat}{o:Oper}{ops:Array Oper}{l:List Oper}{K:QdX->DSt->Prop}
theorem go{d:DV}{us:List (Nat×Option Ob)}{rs:List Nat}{n:Nat}(h:Qq P o env sto nxt ⟨d,us,rs,n⟩)
  (k:QK P ops l ⟨env.put o.dst d,sto.upd us,nxt+n⟩ λouts=>K ((⟨d,us,rs,n⟩,nxt) :: outs))(hg:Grd ops o env:=by first | exact .none rfl | exact .yes rfl rfl rfl):QK P ops (o :: l) ⟨env,sto,nxt⟩ K :=
 QK.cons' (by
  unfold QcB
  cases hg with
  | none hn=>rw [hn];exact h
  | yes h1 h2 h3=>rw [h1];exact ⟨_,h2,.inl ⟨h3,h⟩⟩) k
theorem no{g t:Nat}{b:Bool}(k:QK P ops l ⟨env.put o.dst .any,sto,nxt⟩ λouts=>K ((⟨.any,[],[],0⟩,nxt) :: outs))
  (hg:o.guard=some (g,b):=by rfl)(ht:(ops[g]?).bind (·.dst)=some t:=by rfl)(hb:env.get t = .lit (.bool (!b)):=by rfl):QK P ops (o :: l) ⟨env,sto,nxt⟩ K :=
 QK.cons' (out:=⟨.any,[],[],0⟩) (by unfold QcB;rw [hg];exact ⟨t,ht,.inr (.inl ⟨.inl hb,.inl rfl⟩)⟩) k
theorem m_move{x:Operand}(ho:o.op = .move x:=by rfl):Qq P o env sto nxt ⟨opd env x,[],[],0⟩:=r_move ho
theorem m_set{x:Operand}(ho:o.op = .assign x:=by rfl):Qq P o env sto nxt ⟨opd env x,[],[],0⟩:=r_assign ho
theorem m_pick{c x y:Operand}{t:Bool}(ho:o.op = .pick c x y:=by rfl)(hc:opd env c = .lit (.bool t):=by rfl):Qq P o env sto nxt ⟨cond t (opd env x) (opd env y),[],[],0⟩:=by
 have:=r_pick (P:=P) (sto:=sto) (nxt:=nxt) ho hc
 cases t <;> exact this
theorem m_ext{x:Operand}{i:Nat}{xs:List DV}{d:DV}(ho:o.op = .extract x i:=by rfl)(hx:opd env x = .tup xs:=by rfl)(hi:xs[i]?=some d:=by rfl):Qq P o env sto nxt ⟨d,[],[],0⟩:=r_extract ho hx hi
theorem m_not{t:Nat}{x:Operand}{p:Bool}(ho:o.op = .unOp .not t x:=by rfl)(hx:opd env x = .lit (.bool p):=by rfl):Qq P o env sto nxt ⟨.lit (.bool (!p)),[],[],0⟩:=r_not ho hx
theorem m_func{f:Nat}{cap:Array Operand}{l:List Operand}(ho:o.op = .makeFunc (.func f) #[] cap:=by rfl)(hc:cap=l.toArray:=by rfl):Qq P o env sto nxt ⟨.fn f (l.map (opd env)),[],[],0⟩:=r_func ho hc
inductive Qa9:BinOp->IntKind->Int->Int->Value->Prop
 | add {a b:Int}:-9223372036854775808<=a+b/\a+b<=9223372036854775807->Qa9 .add .i64 a b (.int .i64 (a+b))
 | sub {a b:Int}:-9223372036854775808<=a - b/\a - b<=9223372036854775807->Qa9 .sub .i64 a b (.int .i64 (a - b))
 | mul {a b:Int}:-9223372036854775808<=a * b/\a * b<=9223372036854775807->Qa9 .mul .i64 a b (.int .i64 (a * b))
 | addu {a b:Int}:0<=a+b/\a+b<=18446744073709551615->Qa9 .add .u64 a b (.int .u64 (a+b))
 | subu {a b:Int}:0<=a - b/\a - b<=18446744073709551615->Qa9 .sub .u64 a b (.int .u64 (a - b))
 | bitsE {op:BinOp} {k:IntKind} {a b r:Int}:(op = .and\/op = .or\/op = .xor\/op = .andNot)->bits op k a b=r->Qa9 op k a b (.int k r)
 | mulu {a b:Int}:0<=a * b/\a * b<=18446744073709551615->Qa9 .mul .u64 a b (.int .u64 (a * b))
 | quo {k:IntKind} {a b:Int}:0<=a/\0 < b/\k.wrap (a / b)=a / b->Qa9 .quo k a b (.int k (a / b))
 | rem {k:IntKind} {a b:Int}:0<=a/\0 < b->Qa9 .rem k a b (.int k (a % b))
 | ltT {k:IntKind} {a b:Int}:a < b->Qa9 .lss k a b (.bool true)
 | ltF {k:IntKind} {a b:Int}:b<=a->Qa9 .lss k a b (.bool false)
 | leT {k:IntKind} {a b:Int}:a<=b->Qa9 .leq k a b (.bool true)
 | leF {k:IntKind} {a b:Int}:b < a->Qa9 .leq k a b (.bool false)
 | gtT {k:IntKind} {a b:Int}:b < a->Qa9 .gtr k a b (.bool true)
 | gtF {k:IntKind} {a b:Int}:a<=b->Qa9 .gtr k a b (.bool false)
 | geT {k:IntKind} {a b:Int}:b<=a->Qa9 .geq k a b (.bool true)
 | geF {k:IntKind} {a b:Int}:a < b->Qa9 .geq k a b (.bool false)
 | eqT {k:IntKind} {a b:Int}:a=b->Qa9 .eql k a b (.bool true)
 | eqF {k:IntKind} {a b:Int}:¬ a=b->Qa9 .eql k a b (.bool false)
 | neT {k:IntKind} {a b:Int}:¬ a=b->Qa9 .neq k a b (.bool true)
 | neF {k:IntKind} {a b:Int}:a=b->Qa9 .neq k a b (.bool false)
 | lt {k:IntKind} {a b:Int}:Qa9 .lss k a b (.bool (decide (a < b)))
 | le {k:IntKind} {a b:Int}:Qa9 .leq k a b (.bool (decide (a<=b)))
 | gt {k:IntKind} {a b:Int}:Qa9 .gtr k a b (.bool (decide (b < a)))
 | ge {k:IntKind} {a b:Int}:Qa9 .geq k a b (.bool (decide (b<=a)))
 | eq {k:IntKind} {a b:Int}:Qa9 .eql k a b (.bool (decide (a=b)))
 | ne {k:IntKind} {a b:Int}:Qa9 .neq k a b (.bool (!decide (a=b)))
 | raw {op:BinOp} {k:IntKind} {a b:Int} {r:Value}:ZH op k a b=some r->Qa9 op k a b r
theorem Qa9.ok{op:BinOp}{k:IntKind}{a b:Int}{r:Value}(h:Qa9 op k a b r):ZH op k a b=some r:=by
 cases h with
 | add h=>show some (Value.int _ _)=_;rw [Qao h]
 | sub h=>show some (Value.int _ _)=_;rw [Qao h]
 | mul h=>show some (Value.int _ _)=_;rw [Qao h]
 | addu h=>show some (Value.int _ _)=_;rw [JQ h]
 | subu h=>show some (Value.int _ _)=_;rw [JQ h]
 | bitsE h1 h2=>subst h2;rcases h1 with rfl | rfl | rfl | rfl <;> rfl
 | mulu h=>show some (Value.int _ _)=_;rw [JQ h]
 | quo h=>obtain ⟨h1,h2,h3⟩:=h;simp only [ZH];rw [if_neg Oo,Uf h1,h3]
 | rem h=>obtain ⟨h1,h2⟩:=h;simp only [ZH];rw [if_neg Oo,VW h1]
 | ltT h=>simp [ZH,h]
 | ltF h=>simp [ZH];omega
 | leT h=>simp [ZH,h]
 | leF h=>simp [ZH];omega
 | gtT h=>simp [ZH,h]
 | gtF h=>simp [ZH];omega
 | geT h=>simp [ZH,h]
 | geF h=>simp [ZH];omega
 | eqT h=>simp [ZH,h]
 | eqF h=>simp [ZH,h]
 | neT h=>simp [ZH,h]
 | neF h=>simp [ZH,h]
 | lt=>rfl
 | le=>rfl
 | gt=>rfl
 | ge=>rfl
 | eq=>simp only [ZH];congr 2
 | ne=>simp only [ZH];congr 2
 | raw h=>exact h
inductive ShI:BinOp->IntKind->Int->Int->Value->Prop
 | shl {a:Int} {s:Nat}:s<=64/\-9223372036854775808<=a * 2 ^ s/\a * 2 ^ s<=9223372036854775807->ShI .shl .i64 a s (.int .i64 (a * 2 ^ s))
 | shlu {a:Int} {s:Nat}:s<=64/\0<=a * 2 ^ s/\a * 2 ^ s<=18446744073709551615->ShI .shl .u64 a s (.int .u64 (a * 2 ^ s))
 | shr {k:IntKind} {a:Int} {s:Nat}:s<=k.bits->ShI .shr k a s (.int k (a / 2 ^ s))
 | shlZ {a q:Int}:0<=q/\q<=64/\-9223372036854775808<=a * 2 ^ q.toNat/\a * 2 ^ q.toNat<=9223372036854775807->ShI .shl .i64 a q (.int .i64 (a * 2 ^ q.toNat))
 | shluZ {a q:Int}:0<=q/\q<=64/\0<=a * 2 ^ q.toNat/\a * 2 ^ q.toNat<=18446744073709551615->ShI .shl .u64 a q (.int .u64 (a * 2 ^ q.toNat))
 | shrZ {k:IntKind} {a q:Int}:0<=q/\q.toNat<=k.bits->ShI .shr k a q (.int k (a / 2 ^ q.toNat))
 | raw {op:BinOp} {k:IntKind} {a b:Int} {r:Value}:ZB op k a b=some r->ShI op k a b r
theorem ShI.ok{op:BinOp}{k:IntKind}{a b:Int}{r:Value}(h:ShI op k a b r):ZB op k a b=some r:=by
 cases h with
 | shl h =>
  obtain ⟨h1,h2⟩:=h
  simp only [ZB]
  rw [if_neg Oo,Wc,W7 (show _<=IntKind.i64.bits from h1),Qao h2]
 | shlu h =>
  obtain ⟨h1,h2⟩:=h
  simp only [ZB]
  rw [if_neg Oo,Wc,W7 (show _<=IntKind.u64.bits from h1),JQ h2]
 | shr h =>
  simp only [ZB]
  rw [if_neg Oo,Wc,W7 h,Ug _ (YT (Int.pow_pos Od))]
 | shlZ h =>
  obtain ⟨h0,h1,h2⟩:=h
  simp only [ZB]
  rw [if_neg Oo,W7 (show _<=IntKind.i64.bits by show _<=64;omega),Qao h2]
 | shluZ h =>
  obtain ⟨h0,h1,h2⟩:=h
  simp only [ZB]
  rw [if_neg Oo,W7 (show _<=IntKind.u64.bits by show _<=64;omega),JQ h2]
 | shrZ h =>
  simp only [ZB]
  rw [if_neg Oo,W7 h.2,Ug _ (YT (Int.pow_pos Od))]
 | raw h=>exact h
theorem map_at{α:Type}{c:α->List DV}{l:List α}{i:Nat}(h:i < l.length):(l.map c)[i]?=some (c l[i]):=by rw [Wg,Wa h];rfl
inductive Cells(env:Env)(sto:Sto):Operand->List DV->List Nat->Prop
 | pp {p:Operand} {cs:List DV}:opd env p = .pp cs->Cells env sto p cs []
 | ptr {p:Operand} {s i j:Nat} {ob:Ob} {x:List DV}:opd env p = .ptr s i j->sto.get s=some ob->ob.els[i]?=some x->Cells env sto p (x.drop j) [s]
 | ptrM {α:Type} {c:α->List DV} {l:List α} {p:Operand} {s i j z:Nat} {arr frz:Bool}:opd env p = .ptr s i j->sto.get s=some ⟨z,arr,frz,l.map c⟩->(h:i < l.length)->Cells env sto p ((c l[i]).drop j) [s]
theorem m_load{t:Nat}{p:Operand}{td:TyD}{d:DV}{cs:List DV}{rs:List Nat}(ht:Qv P t td)(ho:o.op = .load t p:=by rfl)(hc:Cells env sto p cs rs:=by first | exact .ptr rfl rfl rfl | exact .pp rfl | exact .ptrM rfl rfl Oo)(hd:ldD td cs=some d:=by rfl):Qq P o env sto nxt ⟨d,[],rs,0⟩:=by
 cases hc with
 | pp hp=>exact r_loadP ho ht hp hd
 | ptr hp hs hx=>exact r_load ho ht hp hs hx hd
 | ptrM hp hs h=>exact r_load ho ht hp hs (map_at h) hd
inductive FaD(env:Env)(sto:Sto)(off:Nat):Operand->DV->List Nat->Prop
 | pp {p:Operand} {cs:List DV}:opd env p = .pp cs->FaD env sto off p (.pp (cs.drop off)) []
 | ptr {p:Operand} {s i j:Nat} {ob:Ob}:opd env p = .ptr s i j->sto.get s=some ob->FaD env sto off p (.ptr s i (j+off)) [s]
theorem m_fa{t f:Nat}{p:Operand}{td:TyD}{fs:List (Nat×Nat)}{off size:Nat}{d:DV}{rs:List Nat}(ht:Qv P t td)(ho:o.op = .fieldAddr t p f:=by rfl)(hk:td.k = .struct fs:=by rfl)(hf:fs[f]?=some (off,size):=by rfl)(h0:size≠0:=by decide)
  (hc:FaD env sto off p d rs:=by first | exact .ptr rfl rfl | exact .pp rfl):Qq P o env sto nxt ⟨d,[],rs,0⟩:=by
 cases hc with
 | pp hp=>exact r_faP ho ht hk hf h0 hp
 | ptr hp hs=>exact r_fa ho ht hk hf h0 hp hs
inductive LenD(env:Env)(sto:Sto):Operand->Nat->List Nat->Prop
 | map {α:Type} {c:α->List DV} {l:List α} {x:Operand}:opd env x = .sl (l.map c)->LenD env sto x l.length []
 | sl {xs:List (List DV)} {x:Operand}:opd env x = .sl xs->LenD env sto x xs.length []
 | nil {x:Operand}:opd env x = .lit (.slice none 0 0)->LenD env sto x 0 []
 | own {s off len:Nat} {ob:Ob} {x:Operand}:opd env x = .own s off len->sto.get s=some ob->LenD env sto x len [s]
theorem m_len{x:Operand}{t:Nat}{td:TyD}{e n:Nat}{rs:List Nat}(ht:Qv P t td)(ho:o.op = .call ⟨.builtin .len,#[x],#[t]⟩:=by rfl)(hk:td.k = .slice e:=by rfl)
  (hx:LenD env sto x n rs:=by first | exact .map rfl | exact .own rfl rfl | exact .nil rfl | exact .sl rfl):Qq P o env sto nxt ⟨.lit (.int .i64 n),[],rs,0⟩:=by
 cases hx with
 | map h=>exact r_lenS ho ht hk h Os
 | sl h=>exact r_lenS ho ht hk h rfl
 | nil h=>exact r_lenN ho ht hk h
 | own h hs=>exact r_lenO ho ht hk h hs
inductive NilD(env:Env)(sto:Sto):Operand->DV->List Nat->Prop
 | pp {x:Operand} {cs:List DV}:opd env x = .pp cs->NilD env sto x (.pp cs) []
 | ptr {x:Operand} {s i j:Nat} {ob:Ob}:opd env x = .ptr s i j->sto.get s=some ob->NilD env sto x (.ptr s i j) [s]
 | fn {x:Operand} {f:Nat} {xs:List DV}:opd env x = .fn f xs->NilD env sto x (.fn f xs) []
 | func {x:Operand} {f:Nat} {p q:Array Value}:opd env x = .lit (.func (.func f) p q)->NilD env sto x (.lit (.func (.func f) p q)) []
theorem m_nil{x:Operand}{d:DV}{rs:List Nat}(ho:o.op = .nilCheck x:=by rfl)(hc:NilD env sto x d rs:=by first | exact .ptr rfl rfl | exact .pp rfl | exact .fn rfl | exact .func rfl):Qq P o env sto nxt ⟨d,[],rs,0⟩:=by
 cases hc with
 | pp h=>exact r_nilP ho h
 | ptr h hs=>exact r_nil ho h hs
 | fn h=>exact r_nilF ho h
 | func h=>exact r_nilL ho h
inductive StD(env:Env)(sto:Sto)(td:TyD):Operand->Operand->List (Nat×Option Ob)->List Nat->Prop
 | box {p x:Operand} {s i j:Nat} {ob:Ob} {y cs:List DV} {r:List Nat}:opd env p = .ptr s i j->sto.get s=some ob->ob.frz=false->ob.arr=false->J9 td (opd env x)=some cs->boxF sto cs=some r->ob.els[i]?=some y->j+cs.length<=y.length ->
   StD env sto td p x [(s,some { ob with els:=ob.els.set i (Qm y j cs) })] (s :: r)
 | arr {p x:Operand} {s i j:Nat} {ob:Ob} {y cs cs':List DV} {us:List Nat}:opd env p = .ptr s i j->sto.get s=some ob->ob.frz=false->ob.arr=true->J9 td (opd env x)=some cs->Qah sto cs=some (cs',us)->us.contains s=false->ob.els[i]?=some y->j+cs.length<=y.length ->
   StD env sto td p x ((s,some { ob with els:=ob.els.set i (Qm y j cs') }) :: Qb8 sto us) (s :: us)
 | arrM {α:Type} {c:α->List DV} {l:List α} {p x:Operand} {s i j z:Nat} {cs cs':List DV} {us:List Nat}:opd env p = .ptr s i j->sto.get s=some ⟨z,true,false,l.map c⟩->J9 td (opd env x)=some cs->Qah sto cs=some (cs',us)->us.contains s=false->(h:i < l.length)->j+cs.length<=(c l[i]).length ->
   StD env sto td p x ((s,some ⟨z,true,false,(l.map c).set i (Qm (c l[i]) j cs')⟩) :: Qb8 sto us) (s :: us)
theorem m_store{t:Nat}{p x:Operand}{td:TyD}{us:List (Nat×Option Ob)}{rs:List Nat}(ht:Qv P t td)(ho:o.op = .store t p x:=by rfl)
  (hc:StD env sto td p x us rs:=by first | exact .box rfl rfl rfl rfl rfl rfl rfl (by first | decide | exact VO rfl) | exact .arrM rfl rfl rfl rfl rfl Oo (by first | decide | exact VO rfl) | exact .arr rfl rfl rfl rfl rfl rfl rfl rfl (by first | decide | exact VO rfl)):Qq P o env sto nxt ⟨.any,us,rs,0⟩:=by
 cases hc with
 | box h1 h2 h3 h4 h5 h6 h7 h8=>exact Qd6 ho ht h1 h2 h3 h4 h5 h6 h7 h8
 | arr h1 h2 h3 h4 h5 h6 h7 h8 h9=>exact r_storeA ho ht h1 h2 h3 h4 h5 h6 h7 h8 h9
 | arrM h1 h2 h5 h6 h7 h8 h9=>exact r_storeA ho ht h1 h2 rfl rfl h5 h6 h7 (map_at h8) h9
inductive ElsD(env:Env)(sto:Sto)(z:Nat):Operand->List (List DV)->List Nat->Prop
 | map {α:Type} {c:α->List DV} {l:List α} {x:Operand}:opd env x = .sl (l.map c)->(∀ a,(c a).length=z)->ElsD env sto z x (l.map c) []
 | own {α:Type} {c:α->List DV} {l:List α} {x:Operand} {s off len:Nat} {frz:Bool}:opd env x = .own s off len->sto.get s=some ⟨z,true,frz,l.map c⟩->off=0->len=l.length->(∀ a,(c a).length=z)->ElsD env sto z x (l.map c) [s]
 | raw {x:Operand} {ys:List (List DV)} {rs:List Nat}:elsF sto (opd env x)=some (ys,rs)->(∀ y∈ys,y.length=z)->ElsD env sto z x ys rs
theorem ElsD.ok{z:Nat}{x:Operand}{ys:List (List DV)}{rs:List Nat}(h:ElsD env sto z x ys rs):elsF sto (opd env x)=some (ys,rs)/\∀ y∈ys,y.length=z:=by
 cases h with
 | map h hz =>
  rw [h]
  exact ⟨rfl,λy hy=>by obtain ⟨a,_,rfl⟩:=Wj.1 hy;exact hz a⟩
 | own h hs h0 hl hz =>
  rw [h]
  subst h0
  subst hl
  refine ⟨?_,λy hy=>by obtain ⟨a,_,rfl⟩:=Wj.1 hy;exact hz a⟩
  unfold elsF
  simp only [hs]
  rw [if_pos ⟨trivial,Os⟩,Uq,Vb Os]
 | raw h hz=>exact ⟨h,hz⟩
theorem m_xor{t:Nat}{x:Operand}{k:IntKind}{p:Int}(ho:o.op = .unOp .xor t x:=by rfl)(hx:opd env x = .lit (.int k p):=by rfl):Qq P o env sto nxt ⟨.lit (.int k (k.wrap (BitVec.ofInt k.bits (if k.signed then -1 else k.max) ^^^ BitVec.ofInt k.bits p).toNat)),[],[],0⟩:=r_xor ho hx
end
abbrev DI(n:Int):DV:=.lit (.int .i64 n)
abbrev DU(n:Int):DV:=.lit (.int .u64 n)
abbrev DB(b:Bool):DV:=.lit (.bool b)
abbrev DN:DV:=.lit (.slice none 0 0)
theorem Cv.litE{sto:Sto}{ρ:Ren}{u v:Value}(h:u=v):Cv sto ρ (.lit u) (.lit v) []:=h▸.lit
theorem Cv.frzM{α:Type}{c:α->List DV}{l:List α}{sto:Sto}{ρ:Ren}{s len z:Nat}{fz:Bool}(h:sto.get s=some ⟨z,true,fz,l.map c⟩)(hl:len=l.length):Cv sto ρ (.own s 0 len) (.sl (l.map c)) [s] :=
 .frz h rfl (by simp [hl]) (by rw [hl,Uq,Vb Os])
theorem CvO.arrE{sto:Sto}{ρ:Ren}{z:Nat}{fz:Bool}{xs ys:List (List DV)}(h:xs=ys):CvO sto ρ ⟨z,true,fz,xs⟩ ⟨z,true,fz,ys⟩ []:=h▸.arr rfl
section
variable{P:Program}{env:Env}{sto:Sto}{nxt:Nat}{o:Oper}
theorem CvL.numbers{sto:Sto}{ρ:Ren}:∀ (l:List Int),CvL sto ρ (l.map DI) (l.map DI) []
 | []=>.nil
 | _ :: l=>CvL.cons (r:=[]) (r':=[]) .lit (CvL.numbers l)
theorem CvL.bools{sto:Sto}{ρ:Ren}:∀ (l:List Bool),CvL sto ρ (l.map DB) (l.map DB) []
 | []=>.nil
 | _ :: l=>CvL.cons (r:=[]) (r':=[]) .lit (CvL.bools l)
theorem fin{fn:Func}{n0:Nat}{r:DV}{S':Sto}{e:Exit}{st:DSt}{ds:List DV}{fr1 fr2:List Nat}(ρ:Ren)(hl:ResL P st fn.results.toList ds)
  (h1:Cv st.sto ρ (resV ds) r fr1:=by repeat' (first | exact .any | exact .lit | exact .sl | exact .nil | exact .own rfl | exact .ptr rfl | exact .frzM rfl (by first | rfl | simp) | exact .pp | exact CvL.nil | apply CvL.cons | apply Cv.agg | apply Cv.tup | apply Cv.fn | exact .litE Oa | exact .litE (congrArg (Value.int _) Oo) | exact .litE (by simp [*])))
  (h2:CvS st.sto ρ S' fr2:=by repeat' (first | exact CvS.nil | apply CvS.cons rfl rfl | exact .arr rfl | apply CvO.box | exact CvL.nil | apply CvL.cons | exact .any | exact .lit | exact .sl | exact .nil | exact .own rfl | exact .ptr rfl | exact .pp | exact .arrE Oa | exact .litE Oa))
  (h3:okR ρ (fr1++fr2) n0 (idb S' n0)=true:=by rfl)(he:e = .normal\/e = .ret:=by first | exact .inr rfl | exact .inl rfl):RetD P fn n0 r S' e st:=⟨he,ds,ρ,fr1,fr2,hl,h1,h2,h3⟩
theorem PRep.len{w:World}{no:Nat->Prop}{v:Value}{xs:List (List DV)}(h:PRep w no v (.sl xs)):xs.length<=9223372036854775807:=by
 obtain ⟨_,cap,_,h1,h2,_⟩:=h.sl_inv
 unfold maxLen at h2
 omega
end
def Qeo:List DV->Option (List Int)
 | []=>some []
 | .lit (.int .i64 n) :: l=>match Qeo l with | some r=>some (n :: r) | none=>none
 | _=>none
def stEqB(P:Program)(t n:Nat):Bool:=match P.underlying t with
 | some (.struct fs)=>!P.stoodInHeld t && !P.eqGuardType P.depth t && fs.size == n && fs.toList.zipIdx.all λp=>!(p.1.name == "_") && p.1.offset == p.2 && (match P.underlying p.1.type with | some (.int .i64)=>true | _=>false) && (match P.info? p.1.type with | some i=>i.size == 1 | none=>false)
 | _=>false
section
variable{P:Program}{env:Env}{sto:Sto}{nxt:Nat}{o:Oper}
theorem QaN{m:Mem}{vs:List Value}{xs:List DV}{az:List Int}(h:Qeo xs=some az)(hr:Reps m vs xs):vs=az.map (Value.int .i64):=by
 induction xs generalizing vs az with
 | nil =>
  injection h with h
  subst h
  exact VK.1 hr.1
 | cons x xs ih =>
  unfold Qeo at h
  split at h
  ·rename_i hq;cases hq
  ·rename_i n l hq
   injection hq with h1 h2
   subst h1
   subst h2
   split at h
   ·rename_i r hr'
    injection h with h
    subst h
    cases vs with
    | nil=>have:=hr.1;simp at this
    | cons v vs =>
     have h1:=hr.2 0 v _ rfl rfl
     have h2:=ih (vs:=vs) hr' ⟨by simpa using hr.1,λi v d hv hd=>hr.2 (i+1) v d (by simpa using hv) (by simpa using hd)⟩
     rw [h1.lit_inv,h2]
     rfl
   ·cases h
  ·cases h
theorem Qdb(w:World)(az bs:List Int)(d:Nat)(hl:az.length=bs.length):∀ (fs:List Field) (k:Nat),
  (fs.zipIdx k).all (λp=>!(p.1.name == "_") && p.1.offset == p.2 && (match P.underlying p.1.type with | some (.int .i64)=>true | _=>false) && (match P.info? p.1.type with | some i=>i.size == 1 | none=>false))=true ->
  k+fs.length=az.length->(Op.eqFields (d+1) (az.map (Value.int .i64)).toArray (bs.map (Value.int .i64)).toArray fs).run P w = .ok (decide (az.drop k=bs.drop k)) w
 | [],k,_,hk=>by
  have h1:az.drop k=[]:=Us (by simp at hk;omega)
  have h2:bs.drop k=[]:=Us (by simp at hk;omega)
  simp [Op.eqFields,h1,h2]
 | f :: fs,k,h,hk=>by
  rw [List.zipIdx_cons,List.all_cons,W0] at h
  obtain ⟨h1,h2⟩:=h
  simp only [W0,Vn,beq_iff_eq,beq_eq_false_iff_ne,ne_eq] at h1
  obtain ⟨⟨⟨a1,a2⟩,a3⟩,a4⟩:=h1
  have hlt:k < az.length:=by simp at hk;omega
  have hlt2:k < bs.length:=by omega
  have hu:P.underlying f.type=some (.int .i64):=by
   split at a3
   ·assumption
   ·cases a3
  have hp:∀ (cs:List Int) (hc:k < cs.length),(part f.type (cs.map (Value.int .i64)).toArray f.offset).run P w = .ok (.int .i64 cs[k]) w:=λcs hc=>by
   cases hi:P.info? f.type with
   | none=>rw [hi] at a4;cases a4
   | some i =>
    rw [hi] at a4
    have hs:i.size=1:=by simpa using a4
    simp [part,isAgg,run_underlying hu,a2,hc]
  have ih:=Qdb w az bs d hl fs (k+1) h2 (by simp at hk;omega)
  have e1:az.drop k=az[k] :: az.drop (k+1):=WO hlt
  have e2:bs.drop k=bs[k] :: bs.drop (k+1):=WO hlt2
  have hi:=run_equalIn_int (P:=P) w d f.type .i64 .i64 az[k] bs[k] hu
  unfold Op.eqFields
  rw [if_pos a1]
  simp only [Sem.run_bind,hp az hlt,hp bs hlt2,Result.andThen_ok,hi]
  by_cases he:az[k]=bs[k]
  ·have hb:(az[k] == bs[k])=true:=by rw [he];exact beq_self_eq_true _
   have key:(az.drop k=bs.drop k)<->(az.drop (k+1)=bs.drop (k+1)):=by
    rw [e1,e2,Yb]
    exact ⟨λh=>h.2,λh=>⟨he,h⟩⟩
   rw [hb]
   simp only [Bool.not_true,Bool.false_eq_true,if_false,ih]
   rw [decide_eq_decide.2 key]
  ·have hb:(az[k] == bs[k])=false:=by rw [beq_eq_false_iff_ne];exact he
   have key:¬ (az.drop k=bs.drop k):=by
    rw [e1,e2,Yb]
    exact λh=>he h.1
   rw [hb,decide_eq_false key]
   rfl
theorem run_eqS{t:Nat}{az bs:List Int}(ht:stEqB P t az.length=true)(hl:az.length=bs.length)(w:World) :
  (Op.equalIn 10000 t (.agg (az.map (Value.int .i64)).toArray) (.agg (bs.map (Value.int .i64)).toArray)).run P w = .ok (decide (az=bs)) w/\P.eqGuardType P.depth t=false:=by
 unfold stEqB at ht
 split at ht
 ·rename_i fs hu
  simp only [W0,Vn,beq_iff_eq] at ht
  obtain ⟨⟨⟨h1,h2⟩,h3⟩,h4⟩:=ht
  have hf:P.fieldsOf t=fs:=by unfold Program.fieldsOf;rw [hu]
  refine ⟨?_,h2⟩
  rw [run_equalIn_struct w 9999 t _ _ (by rw [hf];exact hu) h1,hf]
  have:=Qdb (P:=P) w az bs 9998 hl fs.toList 0 h4 (by simp;omega)
  simpa using this
 ·cases ht
theorem m_eqS{t:Nat}{x y:Operand}{t':Nat}{xs ys:List DV}{az bs:List Int}(ht:stEqB P t az.length=true:=by kernel_rfl)(ho:o.op = .binOp .eql t x y t':=by rfl)(hx:opd env x = .agg xs:=by rfl)(hy:opd env y = .agg ys:=by rfl)(ha:Qeo xs=some az:=by rfl)(hb:Qeo ys=some bs:=by rfl)(hl:az.length=bs.length:=by rfl) :
  Qq P o env sto nxt ⟨.lit (.bool (decide (az=bs))),[],[],0⟩:=.ran λF m a hI hE _ _=>by
 have h1:=hE x (by simp [ho,Op.operands])
 have h2:=hE y (by simp [ho,Op.operands])
 rw [hx] at h1
 rw [hy] at h2
 obtain ⟨us,e1,q1,q2⟩:=h1.agg_inv
 obtain ⟨vs,e2,p1,p2⟩:=h2.agg_inv
 have v1:=QaN ha ⟨q1,q2⟩
 have v2:=QaN hb ⟨p1,p2⟩
 subst v1
 subst v2
 obtain ⟨r1,r2⟩:=run_eqS ht hl m.w
 refine QaI rfl ho hI e1 e2 ?_
 rw [Sem.run_bind,run_eqGuard_agg m.w _ _ _ _ _ _ r2,Result.andThen_ok,run_eql_struct,r1]
 rfl
theorem m_neS{t:Nat}{x y:Operand}{t':Nat}{xs ys:List DV}{az bs:List Int}(ht:stEqB P t az.length=true:=by kernel_rfl)(ho:o.op = .binOp .neq t x y t':=by rfl)(hx:opd env x = .agg xs:=by rfl)(hy:opd env y = .agg ys:=by rfl)(ha:Qeo xs=some az:=by rfl)(hb:Qeo ys=some bs:=by rfl)(hl:az.length=bs.length:=by rfl) :
  Qq P o env sto nxt ⟨.lit (.bool (!decide (az=bs))),[],[],0⟩:=.ran λF m a hI hE _ _=>by
 have h1:=hE x (by simp [ho,Op.operands])
 have h2:=hE y (by simp [ho,Op.operands])
 rw [hx] at h1
 rw [hy] at h2
 obtain ⟨us,e1,q1,q2⟩:=h1.agg_inv
 obtain ⟨vs,e2,p1,p2⟩:=h2.agg_inv
 have v1:=QaN ha ⟨q1,q2⟩
 have v2:=QaN hb ⟨p1,p2⟩
 subst v1
 subst v2
 obtain ⟨r1,r2⟩:=run_eqS ht hl m.w
 refine QaI rfl ho hI e1 e2 ?_
 rw [Sem.run_bind,run_eqGuard_agg m.w _ _ _ _ _ _ r2,Result.andThen_ok,run_neq_struct,r1]
 rfl
theorem ScS.one{k z:Nat}{a f:Bool}{α:Type}{c:α->List DV}{l:List α}(h:∀ x,∀ d∈c x,Sc d):ScS [(k,⟨z,a,f,l.map c⟩)]:=λs ob hs y hy d hd=>by
 rw [Sto.get_cons] at hs
 split at hs
 ·injection hs with hs
  subst hs
  obtain ⟨x,_,rfl⟩:=Wj.1 hy
  exact h x d hd
 ·cases hs
theorem ScS.nil:ScS []:=λs ob h=>by cases h
theorem ScS.cons{k z:Nat}{a f:Bool}{α:Type}{c:α->List DV}{l:List α}{S:Sto}(h:∀ x,∀ d∈c x,Sc d)(hS:ScS S):ScS ((k,⟨z,a,f,l.map c⟩) :: S):=λs ob hs y hy d hd=>by
 rw [Sto.get_cons] at hs
 split at hs
 ·injection hs with hs
  subst hs
  obtain ⟨x,_,rfl⟩:=Wj.1 hy
  exact h x d hd
 ·exact hS s ob hs y hy d hd
theorem ScS.box{k z:Nat}{f:Bool}{cs:List DV}{S:Sto}(h:∀ d∈cs,Sc d)(hS:ScS S):ScS ((k,⟨z,false,f,[cs]⟩) :: S):=λs ob hs y hy d hd=>by
 rw [Sto.get_cons] at hs
 split at hs
 ·injection hs with hs
  subst hs
  obtain rfl:=Wl.1 hy
  exact h d hd
 ·exact hS s ob hs y hy d hd
end
abbrev w64(n:Int):Int:=IntKind.i64.wrap n
abbrev wu(n:Int):Int:=IntKind.u64.wrap n
section plain
variable{α β ρ σ:Type}
theorem bnd{x:Option α}{K:α->Option β}{r:β}(H:x.bind K=some r):∃ v,x=some v/\K v=some r:=Option.bind_eq_some_iff.1 H
theorem iT{p:Prop}[Decidable p]{A B:Option β}{r:β}(h:p)(H:(if p then A else B)=some r):A=some r:=by rwa [if_pos h] at H
theorem iF{p:Prop}[Decidable p]{A B:Option β}{r:β}(h:¬ p)(H:(if p then A else B)=some r):B=some r:=by rwa [if_neg h] at H
theorem ck{p:Prop}[Decidable p]{A:Option β}{r:β}(H:(if p then A else none)=some r):p/\A=some r:=by
 by_cases h:p
 ·exact ⟨h,iT h H⟩
 ·have:=iF h H;cases this
theorem som{a r:β}(H:some a=some r):a=r:=Vq H
def at_(l:List α)(i:Int):Option α:=if 0<=i then l[i.toNat]? else none
theorem QeF{l:List α}{i:Int}{v:α}(h:at_ l i=some v):0<=i/\l[i.toNat]?=some v:=ck h
theorem at_lt{l:List α}{i:Int}{v:α}(h:at_ l i=some v):0<=i/\i.toNat < l.length:=by
 obtain ⟨h1,h2⟩:=QeF h
 refine ⟨h1,?_⟩
 rcases Wq i.toNat l.length with h' | h'
 ·exact h'
 ·rw [Wf h'] at h2;cases h2
theorem at_elem{l:List α}{i:Int}{v:α}(h:at_ l i=some v):∃ h':i.toNat < l.length,l[i.toNat]=v:=by
 obtain ⟨h1,h2⟩:=QeF h
 obtain ⟨_,h3⟩:=at_lt h
 rw [Wa h3] at h2
 exact ⟨h3,Vq h2⟩
inductive LS(σ β:Type) where
 | go (s:σ)
 | out (b:β)
def Qap(f:σ->Option (LS σ β)):Nat->σ->Option β
 | 0,_=>none
 | n+1,s=>match f s with
  | none=>none
  | some (.go s')=>Qap f n s'
  | some (.out b)=>some b
theorem loopN_succ{f:σ->Option (LS σ β)}:∀ {n:Nat} {s:σ} {b:β},Qap f n s=some b->Qap f (n+1) s=some b
 | 0,_,_,h=>by cases h
 | n+1,s,b,h=>by
  unfold Qap at h ⊢
  cases hf:f s with
  | none=>rw [hf] at h;cases h
  | some y =>
   rw [hf] at h
   cases y with
   | go s'=>exact loopN_succ (n:=n) h
   | out b'=>exact h
theorem loopN_le{f:σ->Option (LS σ β)}{n m:Nat}{s:σ}{b:β}(h:Qap f n s=some b)(hm:n<=m):Qap f m s=some b:=by
 induction hm with
 | refl=>exact h
 | step _ ih=>exact loopN_succ ih
theorem loopN_one{f:σ->Option (LS σ β)}{n m:Nat}{s:σ}{b c:β}(h:Qap f n s=some b)(k:Qap f m s=some c):b=c:=by
 have h1:=loopN_le h (Nat.le_max_left n m)
 have h2:=loopN_le k (Nat.le_max_right n m)
 rw [h1] at h2
 exact Vq h2
noncomputable def Qi(f:σ->Option (LS σ β))(s:σ):Option β:=open Classical in if h:∃ b,∃ n,Qap f n s=some b then some (Classical.choose h) else none
theorem Jr{f:σ->Option (LS σ β)}{s:σ}{b:β}:Qi f s=some b<->∃ n,Qap f n s=some b:=by
 unfold Qi
 constructor
 ·intro h
  split at h
  ·rename_i hx
   rw [<- Vq h]
   exact Classical.choose_spec hx
  ·cases h
 ·rintro ⟨n,h⟩
  have hx:∃ b,∃ n,Qap f n s=some b:=⟨b,n,h⟩
  rw [dif_pos hx]
  obtain ⟨m,hm⟩:=Classical.choose_spec hx
  rw [loopN_one hm h]
theorem QdN{f:σ->Option (LS σ β)}{s s':σ}(h:f s=some (.go s')):Qi f s=Qi f s':=by
 apply Option.ext
 intro b
 rw [Jr,Jr]
 constructor
 ·rintro ⟨n,hn⟩
  cases n with
  | zero=>cases hn
  | succ n=>unfold Qap at hn;rw [h] at hn;exact ⟨n,hn⟩
 ·rintro ⟨n,hn⟩
  exact ⟨n+1,by unfold Qap;rw [h];exact hn⟩
theorem Qbj{f:σ->Option (LS σ β)}{s:σ}{b:β}(h:f s=some (.out b)):Qi f s=some b :=
 Jr.2 ⟨1,by unfold Qap;rw [h]⟩
theorem loop_run{f:σ->Option (LS σ β)}(I:Nat->σ):∀ (n k:Nat),(∀ j,k<=j->j < k+n->f (I j)=some (.go (I (j+1))))->Qi f (I k)=Qi f (I (k+n))
 | 0,k,_=>rfl
 | n+1,k,h=>by
  rw [QdN (h k (Wo _) Oo),loop_run I n (k+1) λj h1 h2=>h j Oo Oo]
  congr 2
  omega
theorem QdM{f:σ->Option (LS σ β)}(I:Nat->σ)(n:Nat){b:β}(h:∀ j,j < n->f (I j)=some (.go (I (j+1))))(hb:f (I n)=some (.out b)):Qi f (I 0)=some b:=by
 rw [loop_run I n 0 λj _ hj=>h j Oo,Vs]
 exact Qbj hb
def bndR(X:Option (β ⊕ ρ))(K:β->Option ρ):Option ρ:=X.bind λz=>match z with
 | .inl b=>K b
 | .inr r=>some r
@[simp] theorem bndR_none(K:β->Option ρ):bndR none K=none:=rfl
@[simp] theorem bndR_inl(b:β)(K:β->Option ρ):bndR (some (.inl b)) K=K b:=rfl
@[simp] theorem bndR_inr(r:ρ)(K:β->Option ρ):bndR (some (.inr r)) K=some r:=rfl
end plain
section
variable{P:Program}{nt n0:Nat}{Q:Exit->DSt->Prop}{st:DSt}{α β ρ σ:Type}
theorem d_cutF{x y:Code}{X:Option β}{K:β->Option ρ}{r:ρ}(I:β->DSt)(H:X.bind K=some r)
  (hx:∀ z,X=some z->DWp P nt n0 x (QbQ (λs=>ZJ n0 s (I z)) Q) st)(hy:∀ b,K b=some r->DWp P nt n0 y Q (I b)):DWp P nt n0 (.seq x y) Q st:=by
 obtain ⟨z,h1,h2⟩:=bnd H
 refine d_cut I (λb=>b=z) ((hx z h1).mono λe s h=>?_) (λb hb=>by subst hb;exact hy b h2)
 cases e with
 | normal=>exact ⟨z,rfl,h⟩
 | _=>exact h
theorem d_cutR{x y:Code}{X:Option (β ⊕ ρ)}{K:β->Option ρ}{r:ρ}(I:β->DSt)(H:bndR X K=some r)
  (hx:∀ z,X=some z->(∀ r',z = .inr r'->r'=r)->DWp P nt n0 x (QbQ (λs=>∃ b,z = .inl b/\ZJ n0 s (I b)) Q) st)(hy:∀ b,K b=some r->DWp P nt n0 y Q (I b)):DWp P nt n0 (.seq x y) Q st:=by
 obtain ⟨z,h1,h2⟩:=bnd H
 have h3:∀ r',z = .inr r'->r'=r:=λr' e=>by subst e;exact Vq h2
 refine d_cut I (λb=>z = .inl b) ((hx z h1 h3).mono λe s h=>?_) (λb hb=>by subst hb;exact hy b h2)
 cases e with
 | normal=>exact h
 | _=>exact h
theorem d_loopF{body:Code}{f:σ->Option (LS σ β)}{s0:σ}{z:β}(I:σ->DSt)(H:Qi f s0=some z)(h0:ZJ n0 st (I s0))
  (hs:∀ s y,f s=some y->(∀ b,y = .out b->b=z)->DWp P nt n0 body (QbQ (λs'=>∃ x',y = .go x'/\ZJ n0 s' (I x')) Q) (I s)):DWp P nt n0 (.loop body) Q st:=by
 obtain ⟨n,hn⟩:=Jr.1 H
 refine d_loop (α:=Nat×σ) (λx=>I x.2) (λx=>Qap f x.1 x.2=some z) (λx=>x.1) (n,s0) hn h0 λx hx=>?_
 obtain ⟨m,s⟩:=x
 cases m with
 | zero=>cases hx
 | succ m =>
  unfold Qap at hx
  dsimp only at hx ⊢
  cases hf:f s with
  | none=>rw [hf] at hx;cases hx
  | some y =>
   rw [hf] at hx
   refine (hs s y hf λb e=>by subst e;exact Vq hx).mono λe s' h=>?_
   cases e with
   | normal =>
    obtain ⟨x',h1,h2⟩:=h
    subst h1
    exact ⟨(m,x'),hx,Nat.lt_succ_self m,h2⟩
   | _=>exact h
theorem d_condE{c:Operand}{x y:Code}{b:Bool}(hc:opd st.env c = .lit (.bool b))(e:b=true)(h:DWp P nt n0 x Q st):DWp P nt n0 (.cond c x y) Q st:=by subst e;exact d_condT hc h
theorem d_condN{c:Operand}{x y:Code}{b:Bool}(hc:opd st.env c = .lit (.bool b))(e:b=false)(h:DWp P nt n0 y Q st):DWp P nt n0 (.cond c x y) Q st:=by subst e;exact d_condF hc h
end
section
variable{P:Program}{env:Env}{sto:Sto}{nxt:Nat}{o:Oper}{ops:Array Oper}{l:List Oper}{K:QdX->DSt->Prop}
theorem gY{g t:Nat}{b c:Bool}(e:c=b)(h1:o.guard=some (g,b):=by rfl)(h2:(ops[g]?).bind (·.dst)=some t:=by rfl)(h3:env.get t = .lit (.bool c):=by rfl):Grd ops o env:=.yes h1 h2 (e▸h3)
theorem noE{g t:Nat}{b c:Bool}(e:c=!b)(k:QK P ops l ⟨env.put o.dst (.tup []),sto,nxt⟩ λouts=>K ((⟨.tup [],[],[],0⟩,nxt) :: outs))
  (hg:o.guard=some (g,b):=by rfl)(ht:(ops[g]?).bind (·.dst)=some t:=by rfl)(hb:env.get t = .lit (.bool c):=by rfl):QK P ops (o :: l) ⟨env,sto,nxt⟩ K :=
 QK.cons' (out:=⟨.tup [],[],[],0⟩) (by unfold QcB;rw [hg];exact ⟨t,ht,.inr (.inl ⟨.inl (e▸hb),.inr rfl⟩)⟩) k
theorem noU{g t:Nat}{b:Bool}(k:QK P ops l ⟨env.put o.dst (.tup []),sto,nxt⟩ λouts=>K ((⟨.tup [],[],[],0⟩,nxt) :: outs))
  (hg:o.guard=some (g,b):=by rfl)(ht:(ops[g]?).bind (·.dst)=some t:=by rfl)(hb:env.get t = .tup []:=by rfl):QK P ops (o :: l) ⟨env,sto,nxt⟩ K :=
 QK.cons' (out:=⟨.tup [],[],[],0⟩) (by unfold QcB;rw [hg];exact ⟨t,ht,.inr (.inl ⟨.inr hb,.inr rfl⟩)⟩) k
theorem m_pickE{c x y:Operand}{t u:Bool}(e:t=u)(ho:o.op = .pick c x y:=by rfl)(hc:opd env c = .lit (.bool t):=by rfl):Qq P o env sto nxt ⟨cond u (opd env x) (opd env y),[],[],0⟩:=by subst e;exact m_pick ho hc
theorem m_quo{t:Nat}{x y:Operand}{t':Nat}{k:IntKind}{p q:Int}(h:¬ q=0)(ho:o.op = .binOp .quo t x y t':=by rfl)(hx:opd env x = .lit (.int k p):=by rfl)(hy:opd env y = .lit (.int k q):=by rfl):Qq P o env sto nxt ⟨.lit (.int k (k.wrap (p.tdiv q))),[],[],0⟩ :=
 Qdk ho hx hy (by unfold ZH;dsimp only;rw [if_neg h])
theorem m_rem{t:Nat}{x y:Operand}{t':Nat}{k:IntKind}{p q:Int}(h:¬ q=0)(ho:o.op = .binOp .rem t x y t':=by rfl)(hx:opd env x = .lit (.int k p):=by rfl)(hy:opd env y = .lit (.int k q):=by rfl):Qq P o env sto nxt ⟨.lit (.int k (p.tmod q)),[],[],0⟩ :=
 Qdk ho hx hy (by unfold ZH;dsimp only;rw [if_neg h])
theorem m_shl{t:Nat}{x y:Operand}{t':Nat}{k j:IntKind}{p q:Int}(h:0<=q)(ho:o.op = .binOp .shl t x y t':=by rfl)(hx:opd env x = .lit (.int k p):=by rfl)(hy:opd env y = .lit (.int j q):=by rfl):Qq P o env sto nxt ⟨.lit (.int k (k.wrap (p * 2 ^ min q.toNat k.bits))),[],[],0⟩ :=
 r_shift ho hx hy (by unfold ZB;rw [if_neg Oo])
theorem m_shr{t:Nat}{x y:Operand}{t':Nat}{k j:IntKind}{p q:Int}(h:0<=q)(ho:o.op = .binOp .shr t x y t':=by rfl)(hx:opd env x = .lit (.int k p):=by rfl)(hy:opd env y = .lit (.int j q):=by rfl):Qq P o env sto nxt ⟨.lit (.int k (p.fdiv (2 ^ min q.toNat k.bits))),[],[],0⟩ :=
 r_shift ho hx hy (by unfold ZB;rw [if_neg Oo])
theorem m_neg{t:Nat}{x:Operand}{k:IntKind}{p:Int}(ho:o.op = .unOp .neg t x:=by rfl)(hx:opd env x = .lit (.int k p):=by rfl):Qq P o env sto nxt ⟨.lit (.int k (k.wrap (0 - p))),[],[],0⟩:=r_neg ho hx
theorem m_iaS{α:Type}{c:α->List DV}{xs:List α}{v:α}{n:Int}{t e:Nat}{x ix:Operand}{tt td:TyD}{k:IntKind}(h:at_ xs n=some v)(ht:Qv P t tt)(he:Qv P e td)(ho:o.op = .indexAddr t x ix:=by rfl)(hk:tt.k = .slice e:=by rfl)
  (hx:opd env x = .sl (xs.map c):=by rfl)(hi:opd env ix = .lit (.int k n):=by rfl)(hl:(c v).length=td.size:=by rfl):Qq P o env sto nxt ⟨.pp (c v),[],[],0⟩:=by
 obtain ⟨h0,h1⟩:=at_lt h
 obtain ⟨h2,rfl⟩:=at_elem h
 exact r_iaM ho ht hk he hx (by rw [Vl h0];exact hi) h1 hl
theorem m_iaO{α:Type}{xs:List α}{v:α}{n:Int}{s len:Nat}{ob:Ob}{t e:Nat}{x ix:Operand}{tt td:TyD}{k:IntKind}(h:at_ xs n=some v)(ht:Qv P t tt)(he:Qv P e td)(ho:o.op = .indexAddr t x ix)(hx:opd env x = .own s 0 len)(hl:xs.length=len)(hk:tt.k = .slice e:=by rfl)
  (hi:opd env ix = .lit (.int k n):=by rfl)(hs:sto.get s=some ob:=by rfl)(hz:ob.esz=td.size:=by rfl):Qq P o env sto nxt ⟨.ptr s n.toNat 0,[],[s],0⟩:=by
 obtain ⟨h0,h1⟩:=at_lt h
 have:=r_iaO (P:=P) (nxt:=nxt) ho ht hk he hx (by rw [Vl h0];exact hi) hs hz Oo
 rw [Vs] at this
 exact this
theorem m_ldO{α:Type}{c:α->List DV}{xs:List α}{v:α}{n:Int}{t:Nat}{p:Operand}{td:TyD}{s j z:Nat}{arr frz:Bool}{d:DV}(h:at_ xs n=some v)(ht:Qv P t td)(ho:o.op = .load t p:=by rfl)(hp:opd env p = .ptr s n.toNat j:=by rfl)(hs:sto.get s=some ⟨z,arr,frz,xs.map c⟩:=by rfl)
  (hd:ldD td ((c v).drop j)=some d:=by rfl):Qq P o env sto nxt ⟨d,[],[s],0⟩:=by
 obtain ⟨h0,h1⟩:=QeF h
 exact r_load ho ht hp hs (by show (xs.map c)[n.toNat]?=some (c v);rw [Wg,h1];rfl) hd
theorem Z2{α:Type}{c:α->List DV}{xs:List α}{v:α}{n:Int}{t:Nat}{p x:Operand}{td:TyD}{s j z:Nat}{cs cs':List DV}{us:List Nat}(h:at_ xs n=some v)(a:α)(ht:Qv P t td)(ho:o.op = .store t p x:=by rfl)(hp:opd env p = .ptr s n.toNat j:=by rfl)(hs:sto.get s=some ⟨z,true,false,xs.map c⟩:=by rfl)
  (hc:J9 td (opd env x)=some cs:=by rfl)(hpu:Qah sto cs=some (cs',us):=by rfl)(hn:us.contains s=false:=by rfl)(hj:j+cs.length<=(c v).length:=by exact VO rfl)(ha:Qm (c v) j cs'=c a:=by rfl) :
  Qq P o env sto nxt ⟨.any,(s,some ⟨z,true,false,(xs.set n.toNat a).map c⟩) :: Qb8 sto us,s :: us,0⟩:=by
 obtain ⟨h0,h1⟩:=QeF h
 have:=r_storeA (P:=P) (nxt:=nxt) ho ht hp hs rfl rfl hc hpu hn (by show (xs.map c)[n.toNat]?=some (c v);rw [Wg,h1];rfl) hj
 rw [ha] at this
 rwa [show (xs.set n.toNat a).map c=(xs.map c).set n.toNat (c a) by rw [YD]]
theorem Qk{α:Type}{c:α->List DV}(xs:List α){t e len:Nat}{parts:Array (Nat×Operand)}{l:List (Nat×Operand)}{tt td:TyD}{cells cells':List DV}{r us:List Nat}(ht:Qv P t tt)(he:Qv P e td)(ho:o.op = .buildSlice t len parts:=by rfl)(hp:parts=l.toArray:=by rfl)(hk:tt.k = .slice e:=by rfl)
  (hz:td.zero.length=td.size:=by rfl)(h0:0 < td.size:=by decide)(h1:0 < len:=by decide)(hm:len * td.size<=16777216:=by decide)
  (h:Qb9 sto (λi=>some (i * td.size,td.size)) (QbZ td len) (l.map λp=>(p.1,opd env p.2))=some (cells,r):=by rfl)(hpu:Qah sto cells=some (cells',us):=by rfl)(hx:J8 len td.size cells'=xs.map c:=by rfl)(hl:len=xs.length:=by rfl) :
  Qq P o env sto nxt ⟨.own nxt 0 xs.length,(nxt,some ⟨td.size,true,false,xs.map c⟩) :: Qb8 sto us,r++us,1⟩:=by
 have:=r_lit (P:=P) (nxt:=nxt) ho hp ht hk he hz h0 h1 hm h hpu
 rw [hx,hl] at this
 exact this
theorem Qeh{α:Type}{c:α->List DV}{n B:Int}(a:α){t e:Nat}{x y:Operand}{tt td:TyD}{k:IntKind}(h:0<=n/\n * B<=281474976710656/\n<=9223372036854775807)(ht:Qv P t tt)(he:Qv P e td)(ho:o.op = .makeSlice t x y:=by rfl)(hk:tt.k = .slice e:=by rfl)(hl:opd env x = .lit (.int k n):=by rfl)(hc:opd env y = .lit (.int k n):=by rfl)
  (hz:td.zero.length=td.size:=by rfl)(h0:0 < td.size:=by decide)(ha:td.zero=c a:=by rfl)(hB:(td.bytes:Int)=B:=by rfl) :
  Qq P o env sto nxt ⟨.own nxt 0 (List.replicate n.toNat a).length,[(nxt,some ⟨td.size,true,false,(List.replicate n.toNat a).map c⟩)],[],1⟩:=by
 subst hB
 obtain ⟨h1,h2,h3⟩:=h
 have e:=Vl h1
 have:=r_make (P:=P) (nxt:=nxt) (sto:=sto) (n:=n.toNat) ho ht hk he (by rw [e];exact hl) (by rw [e];exact hc) (by
  have:((td.bytes * n.toNat:Nat):Int)<=281474976710656:=by push_cast;rw [e,Int.mul_comm];exact h2
  omega) Oo hz h0
 rw [ha] at this
 rw [W8,UO]
 exact this
def zeroR:DV->DV
 | .lit (.slice none 0 0)=>.sl []
 | d=>d
theorem m_mkZ{α:Type}{c:α->List DV}{n B:Int}(a:α){t e:Nat}{x y:Operand}{tt td:TyD}{k:IntKind}(h:0<=n/\n * B<=281474976710656/\n<=9223372036854775807)(ht:Qv P t tt)(he:Qv P e td)(ho:o.op = .makeSlice t x y:=by rfl)(hk:tt.k = .slice e:=by rfl)(hl:opd env x = .lit (.int k n):=by rfl)(hc:opd env y = .lit (.int k n):=by rfl)
  (hz:td.zero.length=td.size:=by rfl)(h0:0 < td.size:=by decide)(ha:td.zero.map zeroR=c a:=by rfl)(hB:(td.bytes:Int)=B:=by rfl) :
  Qq P o env sto nxt ⟨.own nxt 0 (List.replicate n.toNat a).length,[(nxt,some ⟨td.size,true,false,(List.replicate n.toNat a).map c⟩)],[],1⟩:=by
 subst hB
 obtain ⟨h1,h2,h3⟩:=h
 have e:=Vl h1
 have:=r_makeZ (P:=P) (nxt:=nxt) (sto:=sto) (n:=n.toNat) ho ht hk he (by rw [e];exact hl) (by rw [e];exact hc) (by
  have:((td.bytes * n.toNat:Nat):Int)<=281474976710656:=by push_cast;rw [e,Int.mul_comm];exact h2
  omega) Oo hz h0 (td.zero.map zeroR) (by rw [Wb];exact hz) (λj d hd=>by
   rw [Wg] at hd
   cases hq:td.zero[j]? with
   | none=>rw [hq] at hd;cases hd
   | some u =>
    rw [hq] at hd
    injection hd with hd
    subst hd
    unfold zeroR
    split
    ·exact .inr ⟨rfl,rfl⟩
    ·exact .inl rfl)
 rw [ha] at this
 rw [W8,UO]
 exact this
inductive ElE(env:Env)(sto:Sto)(z:Nat):Operand->List (List DV)->List Nat->Prop
 | nil {x:Operand}:opd env x = .lit (.slice none 0 0)->ElE env sto z x [] []
 | sl {xs:List (List DV)} {x:Operand}:opd env x = .sl xs->(∀ y∈xs,y.length=z)->ElE env sto z x xs []
 | own {xs:List (List DV)} {x:Operand} {s len:Nat} {frz:Bool}:opd env x = .own s 0 len->sto.get s=some ⟨z,true,frz,xs⟩->len=xs.length->(∀ y∈xs,y.length=z)->ElE env sto z x xs [s]
theorem ElE.ok{z:Nat}{x:Operand}{ys:List (List DV)}{rs:List Nat}(h:ElE env sto z x ys rs):elsF sto (opd env x)=some (ys,rs)/\∀ y∈ys,y.length=z:=by
 cases h with
 | nil h=>rw [h];exact ⟨rfl,λy hy=>by cases hy⟩
 | sl h hz=>rw [h];exact ⟨rfl,hz⟩
 | own h hs hl hz =>
  rw [h]
  subst hl
  refine ⟨?_,hz⟩
  unfold elsF
  simp only [hs]
  rw [if_pos ⟨trivial,Os⟩,Uq,Vb Os]
theorem nat_le{a b:Nat}(h:(a:Int)<=(b:Int)):a<=b:=by omega
theorem Qf{α:Type}{c:α->List DV}{z:Nat}(h:∀ a,(c a).length=z)(xs:List α):∀ y∈xs.map c,y.length=z:=λy hy=>by
 obtain ⟨a,_,rfl⟩:=Wj.1 hy
 exact h a
theorem Qbi{α:Type}{c:α->List DV}(ys:List α){t e:Nat}{s x:Operand}{tt td:TyD}{rs:List Nat}{B:Int}(hb:(ys.length:Int) * B<=140737488355328/\(ys.length:Int)<=9223372036854775807)(ht:Qv P t tt)(he:Qv P e td)(ho:o.op = .call ⟨.builtin .append,#[s,x],#[t,t]⟩)(hx:ElE env sto td.size x (ys.map c) rs)(hk:tt.k = .slice e:=by rfl)
  (hs:opd env s = .lit (.slice none 0 0):=by rfl)(hz:td.zero.length=td.size:=by rfl)(h0:0 < td.size:=by decide)(hB:(td.bytes:Int)=B:=by rfl) :
  Qq P o env sto nxt ⟨.own nxt 0 ys.length,[(nxt,some ⟨td.size,true,false,ys.map c⟩)],rs,1⟩:=by
 subst hB
 obtain ⟨h1,h2⟩:=hx.ok
 have:=r_appN (P:=P) (nxt:=nxt) ho ht hk he hs h1 hz h0 h2 (by rw [Wb];exact nat_le (a:=_ * _) hb.1) (by rw [Wb];unfold maxLen;omega)
 rw [Wb] at this
 exact this
theorem QT{α:Type}{c:α->List DV}(xs ys:List α){t e k len:Nat}{s x:Operand}{tt td:TyD}{rs:List Nat}{B:Int}(hb:((xs.length:Int)+ys.length) * B<=140737488355328/\(xs.length:Int)+ys.length<=9223372036854775807)(ht:Qv P t tt)(he:Qv P e td)(ho:o.op = .call ⟨.builtin .append,#[s,x],#[t,t]⟩)(hs:opd env s = .own k 0 len)(hx:ElE env sto td.size x (ys.map c) rs)(hl:xs.length=len)(hk:tt.k = .slice e:=by rfl)
  (hg:sto.get k=some ⟨td.size,true,false,xs.map c⟩:=by rfl)(hz:td.zero.length=td.size:=by rfl)(h0:0 < td.size:=by decide)(hB:(td.bytes:Int)=B:=by rfl) :
  Qq P o env sto nxt ⟨.own nxt 0 (xs++ys).length,[(k,none),(nxt,some ⟨td.size,true,false,(xs++ys).map c⟩)],k :: rs,1⟩:=by
 subst hB
 obtain ⟨h1,h2⟩:=hx.ok
 subst hl
 have:=r_app (P:=P) (nxt:=nxt) ho ht hk he hs hg h1 rfl rfl Os rfl hz h0 h2 (by rw [Wb];exact nat_le (a:=(_+_) * _) hb.1) (by rw [Wb];unfold maxLen;omega)
 dsimp only at this
 rw [Wb,Vb Os,<- WF,<- Wn] at this
 exact this
theorem m_slS{α:Type}{c:α->List DV}{xs:List α}{a b:Int}{t e:Nat}{x:Operand}{lo hi:Option Operand}{tt td:TyD}(h:0<=a/\a<=b/\b<=xs.length)(ht:Qv P t tt)(he:Qv P e td)
  (hl:(lo=none/\a=0)\/∃ y k,lo=some y/\opd env y = .lit (.int k a))(hh:(hi=none/\b=xs.length)\/∃ y k,hi=some y/\opd env y = .lit (.int k b))
  (ho:o.op = .slice t x lo hi none:=by rfl)(hk:tt.k = .slice e:=by rfl)(hx:opd env x = .sl (xs.map c):=by rfl)(hz:∀ a,(c a).length=td.size:=by exact λ_=>rfl) :
  Qq P o env sto nxt ⟨.sl (((xs.take b.toNat).drop a.toNat).map c),[],[],0⟩:=by
 obtain ⟨h1,h2,h3⟩:=h
 have e1:=Vl h1
 have e2:=Vl (show 0<=b by omega)
 obtain ⟨l,b1,l1⟩:∃ l,Bnd env lo l/\l.getD 0=a.toNat:=by
  rcases hl with ⟨rfl,rfl⟩ | ⟨y,k,rfl,hy⟩
  ·exact ⟨none,.none,rfl⟩
  ·exact ⟨some a.toNat,.some (k:=k) (by rw [e1];exact hy),rfl⟩
 obtain ⟨u,b2,u1⟩:∃ u,Bnd env hi u/\u.getD (xs.map c).length=b.toNat:=by
  rcases hh with ⟨rfl,rfl⟩ | ⟨y,k,rfl,hy⟩
  ·exact ⟨none,.none,Os⟩
  ·exact ⟨some b.toNat,.some (k:=k) (by rw [e2];exact hy),rfl⟩
 have:=r_slS (P:=P) (sto:=sto) (nxt:=nxt) ho ht hk he hx b1 b2 (by rw [l1,u1];omega) (by rw [u1,Wb];omega) (λy hy=>by
  obtain ⟨a,_,rfl⟩:=Wj.1 (List.mem_of_mem_head? hy)
  exact hz a)
 rw [l1,u1] at this
 rw [YS,U8]
 exact this
theorem Cv.ownE{sto:Sto}{ρ:Ren}{s s' len len':Nat}(h:ρ.get s'=some s)(e:len=len'):Cv sto ρ (.own s 0 len) (.own s' 0 len') []:=e▸.own h
end
structure Fe where
 ow:Int
 st:Int
 nx:Int
structure Sp where
 sh:Int
 ws:List Int
 fs:List Fe
def uC(x:Int):List DV:=[DU x]
def iC(x:Int):List DV:=[DI x]
def bC(x:Bool):List DV:=[DB x]
def frC(f:Fe):List DV:=[DI f.ow,DI f.st,DI f.nx]
noncomputable def bP(p:Prop):Bool:=@decide p (Classical.propDecidable p)
theorem Qc3{p:Prop}(h:p):bP p=true:=by unfold bP;exact @decide_eq_true p (Classical.propDecidable p) h
theorem bP_f{p:Prop}(h:¬ p):bP p=false:=by unfold bP;exact @decide_eq_false p (Classical.propDecidable p) h
theorem ZI{p:Prop}:bP p=true<->p:=⟨λh=>Classical.byContradiction λhn=>(by rw [bP_f hn] at h;cases h),Qc3⟩
theorem DCall.t{P:Program}{f:Nat}{ds:List DV}{S S':Sto}{p:Prop}(h:DCall P f ds S (DB (bP p)) S')(hp:p):DCall P f ds S (DB true) S':=by rw [<- Qc3 hp];exact h
theorem DCall.f{P:Program}{f:Nat}{ds:List DV}{S S':Sto}{p:Prop}(h:DCall P f ds S (DB (bP p)) S')(hp:¬ p):DCall P f ds S (DB false) S':=by rw [<- bP_f hp];exact h
theorem Cv.t{sto:Sto}{ρ:Ren}{p:Prop}(h:p):Cv sto ρ (DB true) (DB (bP p)) []:=by rw [Qc3 h];exact .lit
theorem Cv.f{sto:Sto}{ρ:Ren}{p:Prop}(h:¬ p):Cv sto ρ (DB false) (DB (bP p)) []:=by rw [bP_f h];exact .lit
theorem Cv.b{sto:Sto}{ρ:Ren}{p:Prop}{b:Bool}(h:b=true<->p):Cv sto ρ (DB b) (DB (bP p)) []:=by
 cases b with
 | true=>exact Cv.t (h.1 rfl)
 | false=>exact Cv.f λhp=>by have:=h.2 hp;cases this
def Qcg(x:Int):Prop:=3<=x/\x<=8
def I64(x:Int):Prop:=-9223372036854775808<=x/\x<=9223372036854775807
def szS(s:Sp):Nat:=2 ^ s.sh.toNat
theorem sh_get{s:Sp}(hs:Qcg s.sh):∃ e z:Nat,s.sh=(e:Int)/\3<=e/\e<=8/\(2:Int) ^ e=(z:Int)/\8<=z/\z<=256/\szS s=z/\z=2 ^ e:=by
 unfold Qcg at hs
 obtain ⟨e,he⟩:∃ e:Nat,s.sh=e:=⟨s.sh.toNat,Oo⟩
 have h1:3<=e:=by omega
 have h2:e<=8:=by omega
 refine ⟨e,2 ^ e,he,h1,h2,by push_cast;rfl,?_,?_,by unfold szS;rw [he];rfl,rfl⟩
 ·have:(2:Nat) ^ 3<=2 ^ e:=UC Od h1
  omega
 ·have:(2:Nat) ^ e<=2 ^ 8:=UC Od h2
  omega
theorem XC{s:Sp}(hs:Qcg s.sh):0<=s.sh/\s.sh<=8/\8<=szS s/\szS s<=256/\(2:Int) ^ s.sh.toNat=(szS s:Int):=by
 obtain ⟨e,z,he,h1,h2,h3,h4,h5,h6,h7⟩:=sh_get hs
 rw [h6]
 refine ⟨Oo,Oo,h4,h5,?_⟩
 rw [<- h3,he]
 rfl
theorem and_mod{a:Int}{e z:Nat}(h0:0<=a)(h1:a<=9223372036854775807)(he:e<=8)(hz:z=2 ^ e):bits BinOp.and IntKind.i64 a ((z:Int) - 1)=a % (z:Int):=by
 obtain ⟨n,rfl⟩:∃ n:Nat,a=n:=⟨a.toNat,Oo⟩
 subst hz
 have hz2:(2:Nat) ^ e<=2 ^ 8:=UC Od he
 have hz1:0 < (2:Nat) ^ e:=Nat.pow_pos Od
 have e1:(((2 ^ e:Nat):Int) - 1)=((2 ^ e - 1:Nat):Int):=by omega
 rw [e1]
 show IntKind.i64.wrap ((BitVec.ofInt 64 (n:Int) &&& BitVec.ofInt 64 ((2 ^ e - 1:Nat):Int)).toNat:Int)=_
 rw [BitVec.ofInt_natCast,BitVec.ofInt_natCast,BitVec.toNat_and,BitVec.toNat_ofNat,BitVec.toNat_ofNat,VD Oo,VD Oo,Nat.and_two_pow_sub_one_eq_mod]
 have:=UN n hz1
 rw [IntWalk.i64_in _ Oo]
 rfl
def nxF(fs:List Fe)(f:Int):Int:=if h:0<=f/\f.toNat < fs.length then (fs[f.toNat]'h.2).nx else -1
theorem nxF_z{fs:List Fe}{f:Int}(h:0<=f)(h2:f.toNat < fs.length):nxF fs f=(fs[f.toNat]'h2).nx:=by unfold nxF;rw [dif_pos ⟨h,h2⟩]
def itF(fs:List Fe):Nat->Int->Int
 | 0,f=>f
 | k+1,f=>itF fs k (nxF fs f)
theorem nxF_neg{fs:List Fe}{f:Int}(h:f < 0):nxF fs f = -1:=by unfold nxF;rw [dif_neg Oo]
theorem nxF_at{fs:List Fe}{i:Nat}(h:i < fs.length):nxF fs i=fs[i].nx:=by
 unfold nxF
 rw [dif_pos ⟨Oo,by simpa using h⟩]
 rfl
theorem JD{fs:List Fe}:∀ (k:Nat) {f:Int},f = -1->itF fs k f = -1
 | 0,f,h=>h
 | k+1,f,h=>by unfold itF;exact JD k (nxF_neg Oo)
theorem Qbk{fs:List Fe}:∀ (j k:Nat) (f:Int),itF fs (j+k) f=itF fs k (itF fs j f)
 | 0,k,f=>by rw [Vs];rfl
 | j+1,k,f=>by
  rw [show j+1+k=(j+k)+1 by omega]
  show itF fs (j+k) (nxF fs f)=itF fs k (itF fs j (nxF fs f))
  exact Qbk j k _
def NxIn(fs:List Fe):Prop:=∀ i (h:i < fs.length),-1<=fs[i].nx/\fs[i].nx < fs.length
theorem NxIn.nx{fs:List Fe}(h:NxIn fs)(f:Int):-1<=nxF fs f/\nxF fs f < fs.length:=by
 unfold nxF
 split
 ·exact h _ _
 ·omega
theorem NxIn.it{fs:List Fe}(h:NxIn fs):∀ (k:Nat) (f:Int),-1<=f/\f < fs.length->-1<=itF fs k f/\itF fs k f < fs.length
 | 0,f,hf=>hf
 | k+1,f,_=>h.it k _ (h.nx f)
def EndF(fs:List Fe):Prop:=∀ i,i < fs.length->itF fs (fs.length+1) i = -1
def StrF(fs:List Fe):Prop:=∀ i,i < fs.length->∀ k,k < fs.length->itF fs (k+1) i≠i
theorem Qcv:∀ (n:Nat) (l:List Nat),l.Nodup->(∀ x∈l,x < n)->l.length<=n
 | 0,l,_,h=>by
  cases l with
  | nil=>simp
  | cons a l=>exact absurd (h a (Wz ..)) (Vo _)
 | n+1,l,hd,h=>by
  have h1:=Qcv n (l.filter (·≠n)) (hd.filter _) λx hx=>by
   have:=WI.1 hx
   have h2:=h x this.1
   have h3:x≠n:=by simpa using this.2
   omega
  have h2:l.length<=(l.filter (·≠n)).length+1:=by
   have e:l.length=(l.filter (·≠n)).length+(l.filter (λx=>!decide (x≠n))).length:=by
    clear h1 h hd
    induction l with
    | nil=>rfl
    | cons a l ih =>
     by_cases ha:a=n
     ·rw [W4,W4,if_neg (by simp [ha]),if_pos (by simp [ha]),WP,WP];omega
     ·rw [W4,W4,if_pos (by simp [ha]),if_neg (by simp [ha]),WP,WP];omega
   have h3:(l.filter (λx=>!decide (x≠n))).length<=1:=by
    have hd2:=hd.filter (λx=>!decide (x≠n))
    have hm:∀ x∈l.filter (λx=>!decide (x≠n)),x=n:=λx hx=>by
     have:=(WI.1 hx).2
     simpa using this
    revert hd2 hm
    generalize l.filter (λx=>!decide (x≠n))=m
    intro hd2 hm
    match m,hd2,hm with
    | [],_,_=>simp
    | [a],_,_=>simp
    | a :: b :: m,hd2,hm =>
     exfalso
     have ha:=hm a Os
     have hb:=hm b Os
     exact (Vf.1 hd2).1 b Os (ha.trans hb.symm)
   omega
  omega
theorem EndF.str{fs:List Fe}(h:EndF fs):StrF fs:=by
 intro i hi k hk e
 have h1:∀ m:Nat,itF fs ((k+1) * m) i=i:=by
  intro m
  induction m with
  | zero=>rfl
  | succ m ih=>rw [Nat.mul_succ,Qbk,ih,e]
 have h2:=h1 (fs.length+1)
 rw [Vw,Nat.mul_succ] at h2
 rw [show (fs.length+1) * k+(fs.length+1)=(fs.length+1)+(fs.length+1) * k by omega,Qbk,h i hi,JD _ rfl] at h2
 omega
theorem StrF.ends{fs:List Fe}(hn:NxIn fs)(h:StrF fs):EndF fs:=by
 intro i hi
 apply Classical.byContradiction
 intro hne
 have hin:∀ j,j<=fs.length+1->0<=itF fs j i/\itF fs j i < fs.length:=by
  intro j hj
  have h1:=hn.it j i Oo
  refine ⟨?_,h1.2⟩
  rcases UY (itF fs j i) 0 with h2 | h2
  ·exfalso
   apply hne
   rw [show fs.length+1=j+(fs.length+1 - j) by omega,Qbk]
   exact JD _ Oo
  ·exact h2
 have hnd:((List.range (fs.length+1)).map λj=>(itF fs j i).toNat).Nodup:=by
  rw [W1,Vh]
  refine Wx.2 λa b ha hb hab e=>?_
  simp only [WM] at ha hb
  simp only [Yh] at e
  have h1:=hin a Oo
  have h2:=hin b Oo
  have e2:itF fs b i=itF fs a i:=by omega
  rw [show b=a+((b - a - 1)+1) by omega,Qbk] at e2
  have h3:=h (itF fs a i).toNat Oo (b - a - 1) Oo
  apply h3
  rw [show (((itF fs a i).toNat:Nat):Int)=itF fs a i by omega]
  exact e2
 have:=Qcv fs.length _ hnd λx hx=>by
  obtain ⟨j,hj,rfl⟩:=Wj.1 hx
  have:=hin j (by have:=WC.1 hj;omega)
  omega
 rw [Wb,WM] at this
 omega
def Stp(ow st:Int):Prop:=0<=ow/\ow<=4294967295/\∃ b:Int,0<=b/\b < 4/\st=ow+b * 4294967296
def ZeroF(s:Sp)(i:Nat):Prop:=∀ a (h:a < s.ws.length),i * szS s<=a->a < (i+1) * szS s->s.ws[a]=0
def FreeF(s:Sp)(i:Nat)(f:Fe):Prop:=f.ow = -1/\f.st = -1/\f.nx = -1/\ZeroF s i
def UsedF(s:Sp)(i:Nat)(f:Fe):Prop:=Stp f.ow f.st/\-1<=f.nx/\f.nx < s.fs.length/\f.nx≠i/\∀ j (h:j < s.fs.length),f.nx=j->s.fs[j].ow=f.ow/\s.fs[j].st=f.st
def UqF(fs:List Fe)(n:Nat):Prop:=∀ i j (hi:i < fs.length) (hj:j < fs.length),i < j->j < n->fs[i].nx=fs[j].nx->fs[i].nx = -1
structure Qbs(s:Sp):Prop where
 sh:Qcg s.sh
 lo:2<=s.fs.length
 hi:s.fs.length<=64
 wl:s.ws.length=s.fs.length * szS s
structure XA(s:Sp):Prop where
 shp:Qbs s
 fm:∀ i (h:i < s.fs.length),FreeF s i s.fs[i]\/UsedF s i s.fs[i]
 uq:UqF s.fs s.fs.length
 ends:EndF s.fs
theorem Z1{s:Sp}(fm:∀ i (h:i < s.fs.length),FreeF s i s.fs[i]\/UsedF s i s.fs[i]):NxIn s.fs:=λi hi=>by
 rcases fm i hi with h | h
 ·rw [h.2.2.1];omega
 ·exact ⟨h.2.1,h.2.2.1⟩
def U64(x:Int):Prop:=0<=x/\x<=18446744073709551615
def SpW(s:Sp):Prop:=(∀ x∈s.ws,U64 x)/\∀ f∈s.fs,I64 f.ow/\I64 f.st/\I64 f.nx
def Qdi(fs:List Fe)(n m:Nat):Prop:=m < 18446744073709551616/\∀ j,j < 64->(m.testBit j=true<->∃ i,∃ h:i < fs.length,i < n/\fs[i].nx=j)
theorem bit_set{m j:Nat}(hm:m < 18446744073709551616)(hj:j < 64):bits BinOp.or IntKind.u64 (m:Int) (2 ^ j)=((m ||| 2 ^ j:Nat):Int)/\m ||| 2 ^ j < 18446744073709551616:=by
 have e1:((2:Int) ^ j)=((2 ^ j:Nat):Int):=by push_cast;rfl
 have h1:(2:Nat) ^ j < 2 ^ 64:=UD Od hj
 have h2:m ||| 2 ^ j < 2 ^ 64:=Yp Oo h1
 rw [e1]
 refine ⟨?_,Oo⟩
 show IntKind.u64.wrap ((BitVec.ofInt 64 (m:Int) ||| BitVec.ofInt 64 ((2 ^ j:Nat):Int)).toNat:Int)=_
 rw [BitVec.ofInt_natCast,BitVec.ofInt_natCast,BitVec.toNat_or,BitVec.toNat_ofNat,BitVec.toNat_ofNat,VD Oo,VD Oo,IntWalk.u64_in _ Oo]
theorem Qdi.skip{fs:List Fe}{n m:Nat}(h:Qdi fs n m)(hn:n < fs.length)(hx:fs[n].nx < 0):Qdi fs (n+1) m:=⟨h.1,λj hj=>(h.2 j hj).trans ⟨λ⟨i,hi,h1,h2⟩=>⟨i,hi,Oo,h2⟩,λ⟨i,hi,h1,h2⟩=>by
 rcases VE.1 h1 with h3 | h3
 ·exact ⟨i,hi,h3,h2⟩
 ·subst h3;omega⟩⟩
theorem Qdi.set{fs:List Fe}{n m p:Nat}(h:Qdi fs n m)(hn:n < fs.length)(hp:p < 64)(hx:fs[n].nx=p):Qdi fs (n+1) (m ||| 2 ^ p):=by
 refine ⟨(bit_set h.1 hp).2,λj hj=>?_⟩
 rw [Nat.testBit_or,UG,VB,h.2 j hj,decide_eq_true_iff]
 constructor
 ·rintro (⟨i,hi,h1,h2⟩ | e)
  ·exact ⟨i,hi,Oo,h2⟩
  ·exact ⟨n,hn,Oo,by rw [hx,e]⟩
 ·rintro ⟨i,hi,h1,h2⟩
  rcases VE.1 h1 with h3 | h3
  ·exact .inl ⟨i,hi,h3,h2⟩
  ·subst h3;right;omega
theorem UqF.skip{fs:List Fe}{n:Nat}(h:UqF fs n)(hn:n < fs.length)(hx:fs[n].nx = -1):UqF fs (n+1):=λi j hi hj hij hjn e=>by
 rcases VE.1 hjn with h3 | h3
 ·exact h i j hi hj hij h3 e
 ·subst h3;rw [e];exact hx
theorem UqF.set{fs:List Fe}{n m p:Nat}(h:UqF fs n)(hn:n < fs.length)(hb:Qdi fs n m)(hp:p < 64)(hx:fs[n].nx=p)(hm:m.testBit p=false):UqF fs (n+1):=λi j hi hj hij hjn e=>by
 rcases VE.1 hjn with h3 | h3
 ·exact h i j hi hj hij h3 e
 ·subst h3
  exfalso
  have:=(hb.2 p hp).2 ⟨i,hi,hij,e.trans hx⟩
  rw [hm] at this
  cases this
theorem UqF.not{fs:List Fe}{n m p:Nat}(hn:n < fs.length)(hb:Qdi fs n m)(hp:p < 64)(hx:fs[n].nx=p)(hm:m.testBit p=true):¬ UqF fs fs.length:=λh=>by
 obtain ⟨i,hi,h1,h2⟩:=(hb.2 p hp).1 hm
 have:=h i n hi hn h1 hn (h2.trans hx.symm)
 omega
def FmTo(s:Sp)(n:Nat):Prop:=∀ i (h:i < s.fs.length),i < n->FreeF s i s.fs[i]\/UsedF s i s.fs[i]
theorem FmTo.step{s:Sp}{n:Nat}(h:FmTo s n)(hn:n < s.fs.length)(k:FreeF s n s.fs[n]\/UsedF s n s.fs[n]):FmTo s (n+1):=λi hi hin=>by
 rcases VE.1 hin with h3 | h3
 ·exact h i hi h3
 ·subst h3;exact k
def fC(x:Nat):List DV:=[.lit (.float .f64 x)]
def sC(x:ByteArray):List DV:=[.lit (.string x)]
def lC{α:Type}(c:α->List DV)(q:List α):List DV:=[.sl (q.map c)]
def Qcq(k:IntKind)(p q:Int):Int:=k.wrap (p * 2 ^ min q.toNat k.bits)
def Qb2(k:IntKind)(p q:Int):Int:=p.fdiv (2 ^ min q.toNat k.bits)
def xorN(k:IntKind)(p:Int):Int:=k.wrap (BitVec.ofInt k.bits (if k.signed then -1 else k.max) ^^^ BitVec.ofInt k.bits p).toNat
mutual
def scB:DV->Bool
 | .any=>true
 | .lit _=>true
 | .own _ _ _=>true
 | .ptr _ _ _=>true
 | .agg xs=>scLB xs
 | .tup xs=>scLB xs
 | _=>false
def scLB:List DV->Bool
 | []=>true
 | d :: l=>scB d && scLB l
end
mutual
theorem scB_ok:∀ {d:DV},scB d=true->Sc d
 | .any,_=>.any
 | .lit _,_=>.lit
 | .own _ _ _,_=>.own
 | .ptr _ _ _,_=>.ptr
 | .agg xs,h=>.agg (Qd3 (by simpa [scB] using h))
 | .tup xs,h=>.tup (Qd3 (by simpa [scB] using h))
 | .sl _,h=>by simp [scB] at h
 | .pp _,h=>by simp [scB] at h
 | .fn _ _,h=>by simp [scB] at h
theorem Qd3:∀ {l:List DV},scLB l=true->∀ d∈l,Sc d
 | [],_,d,hd=>by cases hd
 | x :: l,h,d,hd=>by
  simp only [scLB,W0] at h
  cases hd with
  | head=>exact scB_ok h.1
  | tail _ hd=>exact Qd3 h.2 d hd
end
theorem scL{l:List DV}(h:scLB l=true):∀ d∈l,Sc d:=Qd3 h
theorem scC{α:Type}{c:α->List DV}(h:∀ x,scLB (c x)=true):∀ x,∀ d∈c x,Sc d:=λx=>Qd3 (h x)
theorem QK.mono{P:Program}{ops:Array Oper}{l:List Oper}{st:DSt}{K K':QdX->DSt->Prop}(h:QK P ops l st K)(hk:∀ o s,K o s->K' o s):QK P ops l st K':=by
 obtain ⟨outs,env',sto',nxt',h1,h2⟩:=h
 exact ⟨outs,env',sto',nxt',h1,hk _ _ h2⟩
section
variable{P:Program}{nt n0:Nat}{Q:Exit->DSt->Prop}{st:DSt}
theorem d_rs{id:Nat}{ops:Array Oper}{l:List Oper}{y:Code}(hl:ops=l.toArray)(h:QK P l.toArray l st λouts s=>seqB nt l outs=true/\DWp P nt n0 y Q s):DWp P nt n0 (.seq (.region id ops false) y) Q st :=
 d_seq λK hK=>d_region hl (h.mono λo s hs=>⟨hs.1,hK s hs.2⟩)
theorem d_as{id:Nat}{ops:Array Oper}{l:List Oper}{y:Code}(hm:P.follows .mixedOrders=true)(hl:ops=l.toArray)(hk:backB l.toArray=true)(h:QK P l.toArray l st λouts s=>(seqB nt l outs=true/\ordB l.toArray outs=true)/\DWp P nt n0 y Q s):DWp P nt n0 (.seq (.region id ops true) y) Q st :=
 d_seq λK hK=>d_any hm hl hk (h.mono λo s hs=>⟨hs.1,hK s hs.2⟩)
theorem d_nilB{c:Code}{env:Env}{sto:Sto}{nxt:Nat}(b j z:Nat)(hz:0 < z){n:Nat}{fz:Bool}{cs:List DV}(hb:sto.get b=some ⟨n,false,fz,[cs]⟩)(hj:cs[j]?=some (.lit (.slice none 0 0)))
  (h:DWp P nt n0 c Q ⟨env,(b,⟨n,false,fz,[cs.set j (.own nxt 0 0)]⟩) :: (nxt,⟨z,true,false,[]⟩) :: (sto.drop nxt).drop b,nxt+1⟩):DWp P nt n0 c Q ⟨env,sto,nxt⟩:=λC h1 h2 a w hs=>by
 refine h C h1 h2 a w ?_
 obtain ⟨m,rfl,hm,hF⟩:=hs
 have hn:m.σ nxt=none:=hF nxt (Wo _)
 obtain ⟨t1,t2⟩:=QbG hm.inv hn m.w ⟨z,none,true,noI⟩ rfl rfl rfl (Wo _) (λ_ _=>rfl) (λg c h=>by cases h)
 have hbn:b≠nxt:=by
  rintro rfl
  obtain ⟨e,he,_⟩:=hm.sto _ _ hb
  rw [hn] at he;cases he
 refine ⟨⟨m.w,m.M,ZN m.σ nxt (some ⟨z,none,true,noI⟩)⟩,rfl,⟨t1,hm.M,hm.size,hm.defers,hm.org.trans t2.ent,hm.lim0,λj=>(hm.env j).ext t2.toExt,λs ob hs=>?_⟩,λs hs=>?_⟩
 ·simp only [Sto.get_cons,Sto.drop_get] at hs
  by_cases hsb:s=b
  ·subst hsb
   rw [if_pos rfl] at hs
   injection hs with hs
   subst hs
   have hold:=QC.loc hm.inv t2 (by simpa using hbn) (hm.sto s _ hb)
   obtain ⟨e,q1,q2,q3,q4⟩:=hold
   refine ⟨e,q1,q2,q3,?_⟩
   cases hblk:e.blk with
   | none=>rw [hblk] at q4;exact absurd q4.1 Os
   | some p =>
    obtain ⟨g,cap⟩:=p
    rw [hblk] at q4
    obtain ⟨row,deep⟩:=q4
    have old:∀ (i:Nat) x (k:Nat) d,[cs.set j (.own nxt 0 0)][i]?=some x->x[k]?=some d->(i=0/\k=j/\d = .own nxt 0 0)\/(i=0/\cs[k]?=some d):=λi x k d hx hd=>by
     cases i with
     | succ i=>simp at hx
     | zero =>
      simp only [WD,Wt] at hx
      subst hx
      by_cases hkj:k=j
      ·subst hkj
       rw [WB (Qbn hj)] at hd
       injection hd with hd
       exact .inl ⟨rfl,rfl,hd.symm⟩
      ·rw [WA Oo] at hd
       exact .inr ⟨rfl,hd⟩
    refine ⟨QbH row rfl rfl rfl (λi x hx=>?_) (λi x k d u hx hd hu=>?_),deep.conv rfl (λ_ r=>r) λi x k z' l hx hd=>?_⟩
    ·cases i with
     | succ i=>simp at hx
     | zero =>
      simp only [WD,Wt] at hx
      subst hx
      rw [Ww]
      exact row.sz 0 cs rfl
    ·rcases old i x k d hx hd with ⟨rfl,rfl,rfl⟩ | ⟨rfl,hd⟩
     ·obtain ⟨u',w1,w2,w3⟩:=Jq row (i:=0) (x:=cs) rfl hj
      rw [hu] at w1
      injection w1 with w1
      subst w1
      refine ⟨w2,?_⟩
      have:Rep (⟨m.w,m.M,ZN m.σ nxt (some ⟨z,none,true,noI⟩)⟩:Mem) u (.lit (.slice none 0 0)):=w3
      rw [this.lit_inv]
      exact .ownNil (Qh _ _ _) rfl
     ·obtain ⟨u',w1,w2⟩:=Jq row (i:=0) (x:=cs) rfl hd
      rw [hu] at w1
      injection w1 with w1
      subst w1
      exact w2
    ·rcases old i x k _ hx hd with ⟨_,_,h⟩ | ⟨rfl,hd⟩
     ·cases h
     ·exact ⟨cs,rfl,hd⟩
  ·rw [if_neg hsb] at hs
   by_cases hs':s=nxt
   ·subst hs'
    rw [if_pos rfl] at hs
    injection hs with hs
    subst hs
    exact ⟨_,Qh _ _ _,rfl,rfl,rfl,hz⟩
   ·rw [if_neg hs',if_neg hsb,if_neg hs'] at hs
    exact QC.loc hm.inv t2 (by simpa using hs') (hm.sto s ob hs)
 ·dsimp only at hs ⊢
  rw [Za _ _ Oo]
  exact hF s (by dsimp only;omega)
theorem wkE{n0:Nat}{st st':DSt}{fr1 fr2:List Nat}(ρ:Ren)
  (h1:CvE st.sto ρ st.env st'.env fr1:=by repeat' (first | exact CvE.nil | apply CvE.cons | exact .lit | exact .own rfl | exact .sl | exact .nil | exact .ptr rfl | exact .ownE rfl (by first | omega | (simp;done) | (simp;omega)) | exact .frzM rfl (by first | omega | (simp;done) | (simp;omega)) | exact .dfzM rfl (λ_=>rfl) (λ_=>rfl) (by first | omega | (simp;done) | (simp;omega)) | exact .any | exact .pp | exact CvL.nil | apply CvL.cons | apply Cv.agg | apply Cv.tup | apply Cv.fn))
  (h2:CvS st.sto ρ st'.sto fr2:=by repeat' (first | exact CvS.nil | apply CvS.cons rfl rfl | exact .arr rfl | exact CvO.same (dpM λ_=>rfl) | apply CvO.rowAt (λ_=>rfl) | apply CvO.box | exact CvL.nil | apply CvL.cons | exact CvL.numbers _ | exact CvL.bools _ | exact .lit | exact .own rfl | exact .sl | exact .nil | exact .ptr rfl | exact .ownE rfl (by first | omega | (simp;done) | (simp;omega)) | exact .frzM rfl (by first | omega | (simp;done) | (simp;omega)) | exact .dfzM rfl (λ_=>rfl) (λ_=>rfl) (by first | omega | (simp;done) | (simp;omega)) | exact .any | exact .pp))
  (h3:okR ρ (fr1++fr2) n0 st'.nxt=true:=by rfl):ZJ n0 st st':=WeakE.weak ⟨ρ,fr1,fr2,h1,h2,h3⟩
theorem finE{fn:Func}{n0:Nat}{r:DV}{S':Sto}{e:Exit}{st:DSt}{ds:List DV}{fr1 fr2:List Nat}(ρ:Ren)(hl:ResL P st fn.results.toList ds)
  (h1:Cv st.sto ρ (resV ds) r fr1:=by repeat' (first | exact .lit | exact .own rfl | exact .sl | exact .nil | exact .ptr rfl | exact .ownE rfl (by first | omega | (simp;done) | (simp;omega)) | exact .frzM rfl (by first | omega | (simp;done) | (simp;omega)) | exact .dfzM rfl (λ_=>rfl) (λ_=>rfl) (by first | omega | (simp;done) | (simp;omega)) | exact CvL.nil | apply CvL.cons | apply Cv.agg | apply Cv.tup | apply Cv.fn | exact .any | exact .pp))
  (h2:CvS st.sto ρ S' fr2:=by repeat' (first | exact CvS.nil | apply CvS.cons rfl rfl | exact .arr rfl | exact CvO.same (dpM λ_=>rfl) | apply CvO.rowAt (λ_=>rfl) | apply CvO.box | exact CvL.nil | apply CvL.cons | exact CvL.numbers _ | exact CvL.bools _ | exact .lit | exact .own rfl | exact .sl | exact .nil | exact .ptr rfl | exact .ownE rfl (by first | omega | (simp;done) | (simp;omega)) | exact .frzM rfl (by first | omega | (simp;done) | (simp;omega)) | exact .dfzM rfl (λ_=>rfl) (λ_=>rfl) (by first | omega | (simp;done) | (simp;omega)) | exact .any | exact .pp))
  (h3:okR ρ (fr1++fr2) n0 (idb S' n0)=true:=by rfl)(he:e = .normal\/e = .ret:=by first | exact .inr rfl | exact .inl rfl):RetD P fn n0 r S' e st:=⟨he,ds,ρ,fr1,fr2,hl,h1,h2,h3⟩
end
section
variable{P:Program}{env:Env}{sto:Sto}{nxt:Nat}{o:Oper}
theorem m_add{t:Nat}{x y:Operand}{t':Nat}{k:IntKind}{p q:Int}(ho:o.op = .binOp .add t x y t':=by rfl)(hx:opd env x = .lit (.int k p):=by rfl)(hy:opd env y = .lit (.int k q):=by rfl):Qq P o env sto nxt ⟨.lit (.int k (k.wrap (p+q))),[],[],0⟩:=Qdk ho hx hy rfl
theorem m_sub{t:Nat}{x y:Operand}{t':Nat}{k:IntKind}{p q:Int}(ho:o.op = .binOp .sub t x y t':=by rfl)(hx:opd env x = .lit (.int k p):=by rfl)(hy:opd env y = .lit (.int k q):=by rfl):Qq P o env sto nxt ⟨.lit (.int k (k.wrap (p - q))),[],[],0⟩:=Qdk ho hx hy rfl
theorem m_mul{t:Nat}{x y:Operand}{t':Nat}{k:IntKind}{p q:Int}(ho:o.op = .binOp .mul t x y t':=by rfl)(hx:opd env x = .lit (.int k p):=by rfl)(hy:opd env y = .lit (.int k q):=by rfl):Qq P o env sto nxt ⟨.lit (.int k (k.wrap (p * q))),[],[],0⟩:=Qdk ho hx hy rfl
theorem m_bits{op:BinOp}{t:Nat}{x y:Operand}{t':Nat}{k:IntKind}{p q:Int}(ho:o.op = .binOp op t x y t':=by rfl)(hx:opd env x = .lit (.int k p):=by rfl)(hy:opd env y = .lit (.int k q):=by rfl)(h:op = .and\/op = .or\/op = .xor\/op = .andNot:=by first | exact .inl rfl | exact .inr (.inl rfl) | exact .inr (.inr (.inl rfl)) | exact .inr (.inr (.inr rfl))):Qq P o env sto nxt ⟨.lit (.int k (bits op k p q)),[],[],0⟩:=Qdk ho hx hy (Qa9.bitsE h rfl).ok
theorem m_lss{t:Nat}{x y:Operand}{t':Nat}{k:IntKind}{p q:Int}(ho:o.op = .binOp .lss t x y t':=by rfl)(hx:opd env x = .lit (.int k p):=by rfl)(hy:opd env y = .lit (.int k q):=by rfl):Qq P o env sto nxt ⟨.lit (.bool (decide (p < q))),[],[],0⟩:=Qdk ho hx hy Qa9.lt.ok
theorem m_leq{t:Nat}{x y:Operand}{t':Nat}{k:IntKind}{p q:Int}(ho:o.op = .binOp .leq t x y t':=by rfl)(hx:opd env x = .lit (.int k p):=by rfl)(hy:opd env y = .lit (.int k q):=by rfl):Qq P o env sto nxt ⟨.lit (.bool (decide (p<=q))),[],[],0⟩:=Qdk ho hx hy Qa9.le.ok
theorem m_gtr{t:Nat}{x y:Operand}{t':Nat}{k:IntKind}{p q:Int}(ho:o.op = .binOp .gtr t x y t':=by rfl)(hx:opd env x = .lit (.int k p):=by rfl)(hy:opd env y = .lit (.int k q):=by rfl):Qq P o env sto nxt ⟨.lit (.bool (decide (q < p))),[],[],0⟩:=Qdk ho hx hy Qa9.gt.ok
theorem m_geq{t:Nat}{x y:Operand}{t':Nat}{k:IntKind}{p q:Int}(ho:o.op = .binOp .geq t x y t':=by rfl)(hx:opd env x = .lit (.int k p):=by rfl)(hy:opd env y = .lit (.int k q):=by rfl):Qq P o env sto nxt ⟨.lit (.bool (decide (q<=p))),[],[],0⟩:=Qdk ho hx hy Qa9.ge.ok
theorem m_eql{t:Nat}{x y:Operand}{t':Nat}{k:IntKind}{p q:Int}(ho:o.op = .binOp .eql t x y t':=by rfl)(hx:opd env x = .lit (.int k p):=by rfl)(hy:opd env y = .lit (.int k q):=by rfl):Qq P o env sto nxt ⟨.lit (.bool (decide (p=q))),[],[],0⟩:=Qdk ho hx hy Qa9.eq.ok
theorem m_neq{t:Nat}{x y:Operand}{t':Nat}{k:IntKind}{p q:Int}(ho:o.op = .binOp .neq t x y t':=by rfl)(hx:opd env x = .lit (.int k p):=by rfl)(hy:opd env y = .lit (.int k q):=by rfl):Qq P o env sto nxt ⟨.lit (.bool (!decide (p=q))),[],[],0⟩:=Qdk ho hx hy Qa9.ne.ok
theorem m_shlE{t:Nat}{x y:Operand}{t':Nat}{k j:IntKind}{p q:Int}(h:0<=q)(ho:o.op = .binOp .shl t x y t':=by rfl)(hx:opd env x = .lit (.int k p):=by rfl)(hy:opd env y = .lit (.int j q):=by rfl):Qq P o env sto nxt ⟨.lit (.int k (Qcq k p q)),[],[],0⟩:=m_shl h ho hx hy
theorem m_shrE{t:Nat}{x y:Operand}{t':Nat}{k j:IntKind}{p q:Int}(h:0<=q)(ho:o.op = .binOp .shr t x y t':=by rfl)(hx:opd env x = .lit (.int k p):=by rfl)(hy:opd env y = .lit (.int j q):=by rfl):Qq P o env sto nxt ⟨.lit (.int k (Qb2 k p q)),[],[],0⟩:=m_shr h ho hx hy
theorem m_xorE{t:Nat}{x:Operand}{k:IntKind}{p:Int}(ho:o.op = .unOp .xor t x:=by rfl)(hx:opd env x = .lit (.int k p):=by rfl):Qq P o env sto nxt ⟨.lit (.int k (xorN k p)),[],[],0⟩:=m_xor ho hx
theorem m_cS{c:Operand}{args:Array Operand}{l:List Operand}{ty:Array TypeId}{f:Nat}{cap ds:List DV}{S:Sto}{r:DV}{S':Sto}{fr1 fr2:List Nat}(ρ:Ren)(hc:DCall P f ds S r S')(hr:scB r=true)(hsS:ScS S')(ho:o.op = .call ⟨.value c,args,ty⟩:=by rfl)(hl:args=l.toArray:=by rfl)(hcl:Qan env c f cap:=by first | exact .func | exact .tmp rfl | exact .clo rfl)
  (hA:CvL sto ρ (l.map (opd env)++cap) ds fr1:=by repeat' (first | exact CvL.nil | apply CvL.cons | exact .lit | exact .own rfl | exact .sl | exact .nil | exact .ptr rfl | exact .ownE rfl (by first | omega | (simp;done) | (simp;omega)) | exact .frzM rfl (by first | omega | (simp;done) | (simp;omega)) | exact .dfzM rfl (λ_=>rfl) (λ_=>rfl) (by first | omega | (simp;done) | (simp;omega)) | exact .any | exact .pp | apply Cv.agg | apply Cv.tup | apply Cv.fn))
  (hS:CvS sto ρ S fr2:=by repeat' (first | exact CvS.nil | apply CvS.cons rfl rfl | exact .arr rfl | exact CvO.same (dpM λ_=>rfl) | apply CvO.rowAt (λ_=>rfl) | apply CvO.box | exact CvL.nil | apply CvL.cons | exact CvL.numbers _ | exact CvL.bools _ | exact .lit | exact .own rfl | exact .sl | exact .nil | exact .ptr rfl | exact .ownE rfl (by first | omega | (simp;done) | (simp;omega)) | exact .frzM rfl (by first | omega | (simp;done) | (simp;omega)) | exact .dfzM rfl (λ_=>rfl) (λ_=>rfl) (by first | omega | (simp;done) | (simp;omega))))
  (hok:okC ρ (fr1++fr2) S.length=true:=by rfl)(hkn:Qem sto ρ=true:=by rfl):Qq P o env sto nxt ⟨ren (phi ρ S.length nxt) r,JM ρ S.length nxt S',ρ.map (·.2)++(fr1++fr2),idb S' S.length - S.length⟩:=by
 have:=r_callB (P:=P) (nxt:=nxt) ho hl hcl hc (scB_ok hr) hsS hA hS hok hkn
 simpa [outOf] using this
theorem m_cG{c:Operand}{args:Array Operand}{l:List Operand}{ty:Array TypeId}{f:Nat}{cap ds:List DV}{S:Sto}{r:DV}{S':Sto}{fr1 fr2:List Nat}(ρ:Ren)(hc:DCall P f ds S r S')(ho:o.op = .call ⟨.value c,args,ty⟩:=by rfl)(hl:args=l.toArray:=by rfl)(hcl:Qan env c f cap:=by first | exact .func | exact .tmp rfl | exact .clo rfl)
  (hA:CvL sto ρ (l.map (opd env)++cap) ds fr1:=by repeat' (first | exact CvL.nil | apply CvL.cons | exact .lit | exact .own rfl | exact .sl | exact .nil | exact .ptr rfl | exact .ownE rfl (by first | omega | (simp;done) | (simp;omega)) | exact .frzM rfl (by first | omega | (simp;done) | (simp;omega)) | exact .dfzM rfl (λ_=>rfl) (λ_=>rfl) (by first | omega | (simp;done) | (simp;omega)) | exact .any | exact .pp | apply Cv.agg | apply Cv.tup | apply Cv.fn))
  (hS:CvS sto ρ S fr2:=by repeat' (first | exact CvS.nil | apply CvS.cons rfl rfl | exact .arr rfl | exact CvO.same (dpM λ_=>rfl) | apply CvO.rowAt (λ_=>rfl) | apply CvO.box | exact CvL.nil | apply CvL.cons | exact CvL.numbers _ | exact CvL.bools _ | exact .lit | exact .own rfl | exact .sl | exact .nil | exact .ptr rfl | exact .ownE rfl (by first | omega | (simp;done) | (simp;omega)) | exact .frzM rfl (by first | omega | (simp;done) | (simp;omega)) | exact .dfzM rfl (λ_=>rfl) (λ_=>rfl) (by first | omega | (simp;done) | (simp;omega))))
  (hok:okC ρ (fr1++fr2) S.length=true:=by rfl)(hkn:Qem sto ρ=true:=by rfl):Qq P o env sto nxt ⟨ren (phi ρ S.length nxt) r,JM ρ S.length nxt S'++Qb8 sto (fr1++fr2),ρ.map (·.2)++(fr1++fr2),idb S' S.length - S.length⟩:=r_callF ho hl hcl hc hA hS hok hkn
theorem DCall.conv{f:FuncId}{ds:List DV}{S:Sto}{r r':DV}{S' S'':Sto}{fr1 fr2:List Nat}(h:DCall P f ds S r S')(ρ:Ren)(h1:Cv S' ρ r r' fr1)(h2:CvS S' ρ S'' fr2)(h3:okR ρ (fr1++fr2) S.length (idb S'' S.length)=true):DCall P f ds S r' S'':=⟨h.1,λw M σ vs hI hS hσ hR=>by
 refine Calls.mono (h.2 w M σ vs hI hS hσ hR) λe w' ⟨v,σ',he,q1,q2,q3,q4,q5⟩=>?_
 obtain ⟨m',k1,k2,k3,k4,k5,k6,k7⟩:=weak_mem (n0:=S.length) (σ0:=σ) q1 q4 h3 h2 (λs hs=>Wh _ hs) q2 hσ
 obtain ⟨mw,mM,mσ⟩:=m'
 dsimp only at k1 k2
 subst k1
 subst k2
 have:=k4 _ _ fr1 _ h1 (λs hs=>We _ hs) q3
 exact ⟨v,mσ,he,k3,k6,this,k5,k7⟩⟩
end
open Go.RowKit Go.ChangeShapes Go.WideShapes Go.Deep
abbrev mem0(w:World):Mem:=⟨w,λ_=>False,λ_=>none⟩
theorem mem0_no(w:World)(k:Nat):¬ (mem0 w).no k:=λh=>by
 rcases h with h | ⟨s,e,h,_⟩
 ·exact h
 ·cases h
theorem Reps.nil'{m:Mem}:Reps m [] []:=⟨rfl,λi v d h=>by simp at h⟩
theorem Reps.cons'{m:Mem}{v:Value}{d:DV}{vs:List Value}{ds:List DV}(h:Rep m v d)(hs:Reps m vs ds):Reps m (v :: vs) (d :: ds):=⟨by rw [WP,WP,hs.1],λi u e hu he=>by
 cases i with
 | zero =>
  simp only [WD,Wt] at hu he
  subst hu
  subst he
  exact h
 | succ i=>exact hs.2 i u e (by simpa using hu) (by simpa using he)⟩
def TabW(w:World):Prop:=TabF ⟨w,Xof (λ_=>none),Yof (λ_=>none)⟩ (λ_=>False)
theorem DCall.walk{P:Program}{f:FuncId}{ds:List DV}(h:DCall P f ds [] (DB true) []){w:World}{vs:List Value}(hr:Reps (mem0 w) vs ds)(htab:TabW w:=by first | exact TabF.none rfl | assumption):Calls P f vs.toArray w λe w'=>e = .returned (.bool true)/\Below w.heap.size w w':=by
 have hx:∀ k,¬ Xof (λ_=>none) k:=λk ⟨s,e,h,_⟩=>by cases h
 have hI:Inv ⟨w,Xof (λ_=>none),Yof (λ_=>none)⟩ (mem0 w):=⟨rfl,rfl,rfl,Wo _,λ_ _ _=>rfl,λs s' e e' g h=>(by cases h),λs e g h=>(by cases h),λk h=>False.elim h,λs e g c h=>(by cases h),htab⟩
 refine Calls.mono (h.2 w (λ_=>False) (λ_=>none) vs hI (λs ob h=>by cases h) (λ_ _=>rfl) hr) λe w' ⟨v,σ',he,q1,q2,q3,q4,q5⟩=>?_
 subst he
 rw [q3.lit_inv]
 exact ⟨rfl,q1.os,q1.tape,q1.output,q1.size,λk hk=>q1.old k hk (hx k)⟩
def CRd(w:World)(cs:List Value)(ds:List DV):Prop:=cs.length=ds.length/\∀ (i:Nat) v d,cs[i]?=some v->ds[i]?=some d->PRep w (mem0 w).no v d
theorem CRd.one{w:World}{v:Value}{d:DV}(h:PRep w (mem0 w).no v d):CRd w [v] [d]:=⟨rfl,λi u e hu he=>by
 cases i with
 | zero =>
  simp only [WD,Wt] at hu he
  subst hu
  subst he
  exact h
 | succ i=>simp at hu⟩
theorem CRd.get{w:World}{v:Value}{d:DV}(h:CRd w [v] [d]):PRep w (mem0 w).no v d:=h.2 0 v d rfl rfl
theorem CRd.append{w:World}{cs cs':List Value}{ds ds':List DV}(h:CRd w cs ds)(h':CRd w cs' ds'):CRd w (cs++cs') (ds++ds'):=by
 refine ⟨by rw [Wn,Wn,h.1,h'.1],λi v d hv hd=>?_⟩
 by_cases hi:i < cs.length
 ·rw [WK hi] at hv
  rw [WK (by rw [<- h.1];exact hi)] at hd
  exact h.2 i v d hv hd
 ·rw [WJ Oo] at hv
  rw [WJ (by rw [<- h.1];omega),<- h.1] at hd
  exact h'.2 _ v d hv hd
section
variable{P:Program}
def OpD{α:Type}(P:Program)(t:TypeId)(c:α->List DV)(ok:α->Prop):Prop :=
 ∀ (H:Type) (enc:TypeId×Value->H) (w:World) (base:Nat) (spare:Nat->Bool) (held:Bool) (fuel:Nat) (cs:List Value) (x:DataW H×List MemPlace),
  DataW.trod enc P w base spare held fuel t cs=some x->∃ a,CRd w cs (c a)/\ok a
theorem OpD.i64{t:TypeId}(ht:P.underlying t=some (.int .i64)):OpD P t iC I64:=by
 intro H enc w base spare held fuel cs x h
 obtain ⟨n,rfl,_,hn⟩:=DataW.trod_int ht h
 refine ⟨n,CRd.one (.lit _ rfl),?_⟩
 simp [Lit.wf,IntKind.min,IntKind.max,IntKind.bits,IntKind.signed] at hn
 unfold I64
 omega
theorem OpD.u64{t:TypeId}(ht:P.underlying t=some (.int .u64)):OpD P t uC U64:=by
 intro H enc w base spare held fuel cs x h
 obtain ⟨n,rfl,_,hn⟩:=DataW.trod_int ht h
 refine ⟨n,CRd.one (.lit _ rfl),?_⟩
 simp [Lit.wf,IntKind.min,IntKind.max,IntKind.bits,IntKind.signed] at hn
 unfold U64
 omega
theorem OpD.bool{t:TypeId}(ht:P.underlying t=some .bool):OpD P t bC λ_=>True:=by
 intro H enc w base spare held fuel cs x h
 obtain ⟨n,rfl,_⟩:=DataW.trod_bool ht h
 exact ⟨n,CRd.one (.lit _ rfl),trivial⟩
theorem choose_listD{α:Type}{n:Nat}{p:Nat->α->Prop}(h:∀ i,i < n->∃ a,p i a):∃ l:List α,l.length=n/\∀ i (hi:i < l.length),p i l[i]:=by
 induction n with
 | zero=>exact ⟨[],rfl,λi hi=>absurd hi (Vo _)⟩
 | succ n ih =>
  obtain ⟨l,hl,hp⟩:=ih λi hi=>h i Oo
  obtain ⟨a,ha⟩:=h n Oo
  refine ⟨l++[a],by simp [hl],λi hi=>?_⟩
  by_cases hlt:i < l.length
  ·rw [Yw hlt];exact hp i hlt
  ·have:i=n:=by simp at hi;omega
   subst this
   rw [UE Oo]
   simpa using ha
theorem OpD.slice{α:Type}{c:α->List DV}{ok:α->Prop}{t e sz:Nat}(ht:P.underlying t=some (.slice e))(hc:P.cellsOf e=sz)(hp:0 < sz)(hz:∀ a,(c a).length=sz)(h:OpD P e c ok):OpD P t (lC c) λxs=>(∀ x∈xs,ok x)/\xs.length<=9223372036854775807:=by
 intro H enc w base spare held fuel cs x hx
 rcases open_slice ht hx with ⟨rfl,_⟩ | ⟨a,len,cap,m,n,D,Pl,rfl,hb,hl,hm,hmm,_,hel⟩
 ·exact ⟨[],CRd.one (.nil none 0 (W9 _)),(λx hx=>by cases hx),Os⟩
 ·have hlm:len<=m:=by rw [hmm];split <;> omega
  obtain ⟨l,hll,hlp⟩:=choose_listD (n:=len) (p:=λi y=>ok y/\∃ cs',CRd w cs' (c y)/\∀ j,j < sz->w.cell? (a.add (i * sz+j))=cs'[j]?) λi hi=>by
   obtain ⟨cs',h1,h2⟩:=hel i Oo
   obtain ⟨y,hy,hok⟩:=h H enc w base spare held n cs' _ h2
   rw [hc] at h1
   obtain ⟨_,hlen,hcell⟩:=World.cells?_some h1
   refine ⟨y,hok,cs',hy,λj hj=>?_⟩
   have:=hcell j Oo
   rw [add_add] at this
   rw [this]
  refine ⟨l,CRd.one ?_,λx hx=>?_,by unfold maxLen at hm;omega⟩
  ·by_cases h0:len=0
   ·have:l=[]:=VK.1 Oo
    subst this
    subst h0
    exact .nil _ _ hm
   ·obtain ⟨b,off,spot⟩:=a
    obtain ⟨_,cs0,hr0,hcl0⟩:=hlp 0 Oo
    have hl0:cs0.length=sz:=by rw [hr0.1,hz]
    have h00:=hcl0 0 hp
    rw [Wa Oo] at h00
    have hspot:spot=none:=by
     have:=World.cell?_spot h00
     simpa [Addr.add] using this
    subst hspot
    have hadd:∀ k,(⟨b,off,none⟩:Addr).add k=⟨b,off+k,none⟩:=λk=>Jl
    rw [hadd] at h00
    have hbl:=World.block_lt_of_cell? w (a:=_) (u:=_) h00
    have hf:∀ i,∃ g:Nat->Value,i < l.length->∀ j d,((l.map c)[i]?).bind (·[j]?)=some d->w.cell? ⟨b,off+i * sz+j,none⟩=some (g j)/\PRep w (mem0 w).no (g j) d:=λi=>by
     by_cases hi:i < l.length
     ·obtain ⟨_,cs',hr,hcl⟩:=hlp i hi
      refine ⟨λj=>cs'.getD j undef,λ_ j d hd=>?_⟩
      rw [Wg,Wa hi] at hd
      simp only [Wu,WZ] at hd
      have hj:j < sz:=by
       rw [<- hz l[i]]
       rcases Wq j (c l[i]).length with h' | h'
       ·exact h'
       ·rw [Wf h'] at hd;cases hd
      have hl2:cs'.length=sz:=by rw [hr.1,hz]
      have hc2:=hcl j hj
      rw [Wa Oo,hadd] at hc2
      have hgd:cs'.getD j undef=cs'[j]' Oo:=by simp [List.getD,show j < cs'.length by omega]
      dsimp only
      rw [hgd,Ua]
      exact ⟨hc2,hr.2 j _ d (Wa Oo) hd⟩
     ·exact ⟨λ_=>undef,λh=>absurd h hi⟩
    have key:=Classical.axiomOfChoice hf
    obtain ⟨g,hg⟩:=key
    have hlt:∀ (i:Nat) (x:List DV),(l.map c)[i]?=some x->i < l.length:=λi x hx=>by
     rcases Wq i l.length with h' | h'
     ·exact h'
     ·rw [Wf (by simpa using h')] at hx;cases hx
    have:=PRep.sl (w:=w) (no:=(mem0 w).no) b off cap sz (l.map c) g hp (by rw [Wb];omega) (by rw [Wb];omega) hm (mem0_no w b) hbl (λi x hx=>by
     have hi:=hlt i x hx
     rw [Wg,Wa hi] at hx
     simp only [Wu,Wt] at hx
     rw [<- hx,hz]) (λi x j d hx hd=>(hg i (hlt i x hx) j d (by rw [hx];exact hd)).1) (λi x j d hx hd=>(hg i (hlt i x hx) j d (by rw [hx];exact hd)).2)
    rw [Wb,hll] at this
    exact this
  ·obtain ⟨i,hi,rfl⟩:=Um hx
   exact (hlp i hi).1
inductive FOpD(P:Program):{α:Type}->List Field->Nat->(α->List DV)->Nat->(α->Prop)->Prop
 | nil {off:Nat}:FOpD P [] off (λ_:Unit=>[]) 0 λ_=>True
 | cons {α β:Type} {f:Field} {fs:List Field} {off z z':Nat} {c:α->List DV} {c':β->List DV} {ok:α->Prop} {okF:β->Prop} (ho:f.offset=off) (hc:P.cellsOf f.type=z) (h:OpD P f.type c ok) (hs:FOpD P fs (off+z) c' z' okF) :
   FOpD P (f :: fs) off (λp:α×β=>c p.1++c' p.2) (z+z') λp=>ok p.1/\okF p.2
theorem fields_openD{α:Type}{fs:List Field}{off z:Nat}{c:α->List DV}{ok:α->Prop}(hf:FOpD P fs off c z ok) :
  ∀ (H:Type) (enc:TypeId×Value->H) (w:World) (base:Nat) (spare:Nat->Bool) (held:Bool) (n:Nat) (cs:List Value),cs.length=off+z ->
   (∀ (i:Nat) (f:Field),fs[i]?=some f->∃ y,DataW.trod enc P w base spare held n f.type ((cs.drop f.offset).take (P.cellsOf f.type))=some y)->∃ a,CRd w (cs.drop off) (c a)/\ok a:=by
 induction hf with
 | nil =>
  intro H enc w base spare held n cs hl _
  rw [Us Oo]
  exact ⟨(),⟨rfl,λi v d h=>by simp at h⟩,trivial⟩
 | @cons α β f fs off z z' c c' ok okF ho hc h hs ih =>
  intro H enc w base spare held n cs hl hfs
  obtain ⟨y,hy⟩:=hfs 0 f rfl
  obtain ⟨a,ha,hoka⟩:=h H enc w base spare held n _ _ hy
  obtain ⟨b,hb,hokb⟩:=ih H enc w base spare held n cs Oo λi g hg=>hfs (i+1) g (by simpa using hg)
  rw [ho,hc] at ha
  refine ⟨(a,b),?_,hoka,hokb⟩
  have:=ha.append hb
  rw [<- List.drop_drop,Vi] at this
  exact this
theorem OpD.struct{α:Type}{c:α->List DV}{ok:α->Prop}{t z:Nat}{fs:Array Field}(ht:P.underlying t=some (.struct fs))(hc:P.cellsOf t=z)(hf:FOpD P fs.toList 0 c z ok):OpD P t c ok:=by
 intro H enc w base spare held fuel cs x h
 obtain ⟨xs,n,_,_,hcl,hxl,hfs⟩:=DataW.trod_struct ht h
 obtain ⟨a,ha,hok⟩:=fields_openD hf H enc w base spare held n cs (by rw [hcl,hc];omega) λi f hi=>by
  have hi':fs[i]?=some f:=by simpa using hi
  have:=hfs i f hi'
  have hlt:i < xs.length:=by
   rw [hxl]
   exact (Yf.1 hi').1
  exact ⟨xs[i],by rw [this,Wa hlt]⟩
 exact ⟨a,by simpa using ha,hok⟩
theorem OpD.map{α β:Type}{c:α->List DV}{c':β->List DV}{ok:α->Prop}{ok':β->Prop}{t:TypeId}(h:OpD P t c ok)(g:α->β)(hg:∀ a,c' (g a)=c a)(hok:∀ a,ok a->ok' (g a)):OpD P t c' ok':=by
 intro H enc w base spare held fuel cs x hx
 obtain ⟨a,ha,hk⟩:=h H enc w base spare held fuel cs x hx
 exact ⟨g a,by rw [hg];exact ha,hok a hk⟩
theorem OpD.arg{α:Type}{t:TypeId}{c:α->List DV}{ok:α->Prop}(h:OpD P t c ok){H:Type}{enc:TypeId×Value->H}{w:World}{base:Nat}{spare:Nat->Bool}{held:Bool}{v:Value}{d:DataW H}{ps:List MemPlace}
  (hd:DataW.Trod enc P w base spare held t v d ps):∃ a,CRd w v.cells.toList (c a)/\ok a:=by
 obtain ⟨fuel,hf⟩:=hd
 exact h H enc w base spare held fuel _ _ hf
end
theorem CRd.agg{w:World}{cs:Array Value}{ds:List DV}(h:CRd w (Value.agg cs).cells.toList ds):Rep (mem0 w) (.agg cs) (.agg ds):=by
 have:=Rep.agg (m:=mem0 w) (vs:=cs.toList) (xs:=ds) h.1 λi v d hv hd=>.pure (h.2 i v d hv hd)
 simpa using this
theorem CRd.slc{w:World}{a:Option Addr}{l c:Nat}{d:DV}(h:CRd w (Value.slice a l c).cells.toList [d]):Rep (mem0 w) (.slice a l c) d:=.pure (CRd.get (by simpa [Value.cells] using h))
open Go.ChangeShapes Go.WideShapes Go.RowKit
def laidT:List (String×DataW Unit):=[("math/bits.deBruijn64tab",Rows.laid_math_bits_deBruijn64tab)]
theorem laid_tab:laidT=[("math/bits.deBruijn64tab",.agg (tabL.map λx=>.lit (.int .u8 x)))]:=rfl
theorem tabW_of{W:World}(h:laidMetH Tryz.prog laidT W):TabW W:=by
 rw [MakeChecks.laidMetH_plain _ _ _ Ok,laid_tab] at h
 obtain ⟨ps,⟨g,t,cs,fuel,p,q,hg,ht,hv,hd,_,rfl⟩,_,hps⟩:=h
 obtain rfl:=Vq ((show Tryz.prog.globalNamed "math/bits.deBruijn64tab"=some 0 by kernel_rfl).symm.trans hg)
 obtain rfl:=Vq ((show (Tryz.prog.globals[0]?).map (·.type)=some 159 by kernel_rfl).symm.trans ht)
 have u1:Tryz.prog.underlying 159=some (.array 64 5):=by kernel_rfl
 have u2:Tryz.prog.underlying 5=some (.int .u8):=by kernel_rfl
 have c5:Tryz.prog.cellsOf 5=1:=by kernel_rfl
 have c1:Tryz.prog.cellsOf 159=64:=by kernel_rfl
 obtain ⟨xs,m,_,ex,hlen,hl,hel⟩:=DataW.trod_array u1 hd
 rw [c1] at hlen
 have e3:tabL.map (λx=>(.lit (.int .u8 x):DataW Unit))=xs.map (·.1):=DataW.agg.inj (Prod.mk.inj ex).1
 have hcell:∀ (i:Nat) x,tabL[i]?=some x->cs.toList[i]?=some (.int .u8 x):=λi x hx=>by
  obtain ⟨hi,_⟩:=Wi.1 hx
  have hi:i < 64:=hi
  have k:=hel i hi
  rw [c5,YN] at k
  cases hxs:xs[i]? with
  | none=>rw [VY] at hxs;omega
  | some y =>
   rw [hxs] at k
   obtain ⟨z,a,b,_⟩:=DataW.trod_int u2 k
   have e4:=congrArg (λl=>l[i]?) e3
   simp only [Wg,hx,hxs,Wu,Wt] at e4
   rw [b] at e4
   have e5:x=z:=by
    have:=DataW.lit.inj e4
    injection this
   subst e5
   have hlt:i < cs.toList.length:=by omega
   rw [WO hlt] at a
   simp only [List.take_succ_cons,Uo,Yb,and_true] at a
   rw [Wa hlt,a]
 have hc0:MemPlace.cell 0 0∈MemPlace.row ⟨0,0,none⟩ cs.size++p++q:=by
  have:0 < cs.size:=by rw [<- Vv];omega
  refine We _ (We _ ?_)
  unfold MemPlace.row
  exact Wj.2 ⟨0,WC.2 this,rfl⟩
 obtain ⟨⟨c,T,hb⟩,_⟩:=hps 0 0 hc0
 intro k l e
 have e:some (0,tabL)=some (k,l):=e
 injection e with e
 injection e with e1 e2
 subst e1;subst e2
 refine ⟨?_,λ⟨s,e,h,_⟩=>(by cases h),λ⟨s,e,h,_⟩=>(by cases h),id,λi x hx=>?_⟩
 ·show 0 < W.heap.size
  rcases Ue W.heap.size with h0 | h0
  ·rw [V9 Oo] at hb;cases hb
  ·exact h0
 ·show W.cell? ⟨0,i,none⟩=_
  rw [World.var?_cell hg hv i]
  have:=hcell i x hx
  rw [Uj] at this
  exact this
section
variable{α β ρ σ:Type}
theorem loop_inv{f:σ->Option (LS σ β)}(I:σ->Prop)(Q:β->Prop)(μ:σ->Nat)
  (h:∀ s,I s->(∃ s',f s=some (.go s')/\I s'/\μ s' < μ s)\/(∃ b,f s=some (.out b)/\Q b)):∀ (n:Nat) (s:σ),μ s=n->I s->∃ b,Qi f s=some b/\Q b:=by
 intro n
 induction n using Nat.strongRecOn with
 | _ n ih =>
  intro s hn hs
  rcases h s hs with ⟨s',h1,h2,h3⟩ | ⟨b,h1,h2⟩
  ·obtain ⟨b,k1,k2⟩:=ih (μ s') Oo s' rfl h2
   exact ⟨b,(QdN h1).trans k1,k2⟩
  ·exact ⟨b,Qbj h1,h2⟩
theorem loop_ok{f:σ->Option (LS σ β)}{s:σ}(I:σ->Prop)(Q:β->Prop)(μ:σ->Nat)(hs:I s)
  (h:∀ s,I s->(∃ s',f s=some (.go s')/\I s'/\μ s' < μ s)\/(∃ b,f s=some (.out b)/\Q b)):∃ b,Qi f s=some b/\Q b:=loop_inv I Q μ h _ s rfl hs
theorem loop_to{f:σ->Option (LS σ β)}{s:σ}{b:β}(I:σ->Prop)(μ:σ->Nat)(hs:I s)
  (h:∀ s,I s->(∃ s',f s=some (.go s')/\I s'/\μ s' < μ s)\/f s=some (.out b)):Qi f s=some b:=by
 obtain ⟨c,h1,rfl⟩:=loop_ok I (λc=>c=b) μ hs λs hs=>(h s hs).imp id λe=>⟨b,e,rfl⟩
 exact h1
theorem Qce{x:Option α}{a:α}{K:α->Option β}{r:β}(h:x=some a)(k:K a=some r):x.bind K=some r:=by rw [h];exact k
theorem bndR_eq{x:Option (β ⊕ ρ)}{b:β}{K:β->Option ρ}(h:x=some (.inl b)):bndR x K=K b:=by rw [h];rfl
theorem bndR_eqR{x:Option (β ⊕ ρ)}{r:ρ}{K:β->Option ρ}(h:x=some (.inr r)):bndR x K=some r:=by rw [h];rfl
theorem at_nat{l:List α}{i:Nat}(h:i < l.length):at_ l (i:Int)=some l[i]:=by
 unfold at_
 rw [if_pos Oo,Wc,Wa h]
theorem at_int{l:List α}{i:Int}(h0:0<=i)(h:i.toNat < l.length):at_ l i=some l[i.toNat]:=by
 unfold at_
 rw [if_pos h0,Wa h]
theorem at_ex{l:List α}{i:Int}(h0:0<=i)(h:i < l.length):∃ v,at_ l i=some v/\v∈l:=⟨l[i.toNat]' Oo,at_int h0 Oo,Wd _⟩
end
theorem Qd{n:Int}(h:-9223372036854775808<=n/\n<=9223372036854775807):w64 n=n:=Qao h
theorem Jd{n:Int}(h:0<=n/\n<=18446744073709551615):wu n=n:=JQ h
theorem shl_pow{p:Int}{e:Nat}(he:e<=64)(h:-9223372036854775808<=p * 2 ^ e/\p * 2 ^ e<=9223372036854775807):Qcq .i64 p (e:Int)=p * 2 ^ e:=by
 unfold Qcq
 rw [Wc,W7 (show e<=IntKind.i64.bits from he)]
 exact Qd h
section
variable{sto:Sto}
theorem pu_nil:Qah sto []=some ([],[]):=rfl
theorem pu_lit{v:Value}{l b:List DV}{u:List Nat}(h:Qah sto l=some (b,u)):Qah sto (.lit v :: l)=some (.lit v :: b,u):=by
 unfold Qah
 rw [h]
 rfl
theorem pu_own{α:Type}{c:α->List DV}{ys:List α}{s z:Nat}{f:Bool}{l b:List DV}{u:List Nat}(hg:sto.get s=some ⟨z,true,f,ys.map c⟩)(h:Qah sto l=some (b,u)):Qah sto (.own s 0 ys.length :: l)=some (.sl (ys.map c) :: b,s :: u):=by
 have e:pure1 sto (.own s 0 ys.length)=some (.sl (ys.map c),[s]):=by
  unfold pure1
  simp only [hg]
  rw [if_pos ⟨trivial,Os⟩,Uq,Vb Os]
 unfold Qah
 rw [e,h]
 rfl
end
section
variable{P:Program}{o:Oper}{env:Env}{sto:Sto}{nxt:Nat}
theorem m_litP{α:Type}{c:α->List DV}(xs:List α){t e len:Nat}{parts:Array (Nat×Operand)}{l:List (Nat×Operand)}{tt td:TyD}{cells cells':List DV}{r us:List Nat}(ht:Qv P t tt)(he:Qv P e td)(ho:o.op = .buildSlice t len parts)(hp:parts=l.toArray)(hk:tt.k = .slice e)
  (hz:td.zero.length=td.size)(h0:0 < td.size)(h1:0 < len)(hm:len * td.size<=16777216)
  (h:Qb9 sto (λi=>some (i * td.size,td.size)) (QbZ td len) (l.map λp=>(p.1,opd env p.2))=some (cells,r))(hpu:Qah sto cells=some (cells',us))(hx:J8 len td.size cells'=xs.map c)(hl:len=xs.length) :
  Qq P o env sto nxt ⟨.own nxt 0 xs.length,(nxt,some ⟨td.size,true,false,xs.map c⟩) :: Qb8 sto us,r++us,1⟩:=Qk xs ht he ho hp hk hz h0 h1 hm h hpu hx hl
theorem bnd_ex{lo:Option Operand}{a d:Int}{n:Nat}(hd:d=(n:Int))(h0:0<=a)(hl:(lo=none/\a=d)\/∃ y k,lo=some y/\opd env y = .lit (.int k a)):∃ l,Bnd env lo l/\l.getD n=a.toNat:=by
 have e1:=Vl h0
 rcases hl with ⟨rfl,rfl⟩ | ⟨y,k,rfl,hy⟩
 ·exact ⟨none,.none,by simp [hd]⟩
 ·exact ⟨some a.toNat,.some (k:=k) (by rw [e1];exact hy),rfl⟩
theorem m_slV{α:Type}{c:α->List DV}{xs:List α}{a b:Int}{t e s len:Nat}{f:Bool}{x:Operand}{lo hi:Option Operand}{tt td:TyD}(h:0<=a/\a<=b/\b<=xs.length/\(a=0\/a < b))(ht:Qv P t tt)(he:Qv P e td)
  (hl:(lo=none/\a=0)\/∃ y k,lo=some y/\opd env y = .lit (.int k a))(hh:(hi=none/\b=xs.length)\/∃ y k,hi=some y/\opd env y = .lit (.int k b))
  (ho:o.op = .slice t x lo hi none)(hk:tt.k = .slice e)(hx:opd env x = .own s 0 len)(hs:sto.get s=some ⟨td.size,true,f,xs.map c⟩)(hlen:xs.length=len) :
  Qq P o env sto nxt ⟨.own s a.toNat (b.toNat - a.toNat),[],[s],0⟩:=by
 obtain ⟨h1,h2,h3,h4⟩:=h
 subst hlen
 obtain ⟨l,b1,l1⟩:=bnd_ex (n:=0) rfl h1 hl
 obtain ⟨u,b2,u1⟩:=bnd_ex (n:=xs.length) rfl (show 0<=b by omega) hh
 have:=r_slO (P:=P) (sto:=sto) (nxt:=nxt) ho ht hk he hx hs b1 b2 rfl (by rw [l1,u1];omega) (by rw [u1];omega) (by rw [l1,u1];omega)
 rw [l1,u1,Vs] at this
 exact this
theorem r_slN{t e:Nat}{x:Operand}{lo hi:Option Operand}{tt td:TyD}{s off len:Nat}{ob:Ob}(ho:o.op = .slice t x lo hi none)(ht:Qv P t tt)(hk:tt.k = .slice e)(he:Qv P e td)(hx:opd env x = .own s off len)(hs:sto.get s=some ob)(hl:Bnd env lo (some len))(hh:Bnd env hi none)
  (hz:ob.esz=td.size):Qq P o env sto nxt ⟨.sl [],[],[s],0⟩:=.ran λF m a hI hE hHo _=>by
 have hX:=hE x (by simp [ho,Op.operands])
 rw [hx] at hX
 have hL:=Qc2 (m:=m) (a:=a) hl λx hx=>hE x (by simp [ho,Op.operands,hx])
 have hH:=Qc2 (m:=m) (a:=a) hh λx hx=>hE x (by simp [ho,Op.operands,hx])
 obtain ⟨e',k1,k2,k3,k6⟩:=Ji hX (hHo s Os ob hs)
 rcases k6 with ⟨g,cap,k6,q0,k7,k8⟩ | ⟨k6,q0,rfl,rfl,k7,k8⟩
 ·have hrun:=Qbe ht hk he (ad:=some ⟨g,off * ob.esz,none⟩) (Z0 (P:=P) (len:=len) (cap:=cap - off) hL hH (Wo _) (Wo _) Oo true m.w)
  have hmax:=k8.max
  simp only [Wy,YA] at hrun
  refine Ran.val hI (v:=.slice (if cap - off=len then some ⟨g,off * ob.esz,none⟩ else some ⟨g,off * ob.esz+len * td.size,none⟩) (len - len) (cap - off - len)) (by simp [execOp,ho,q0,hrun,Jl]) ?_
  rw [V4]
  exact .pure (.nil _ _ (by unfold maxLen at *;omega))
 ·have hrun:=Qbe ht hk he (ad:=none) (Z0 (P:=P) (len:=0) (cap:=0) hL hH (Wo _) (Wo _) (Wo _) true m.w)
  refine Ran.val hI (v:=.slice none 0 0) (by simp [execOp,ho,q0,hrun]) ?_
  exact .pure (.nil _ _ (by unfold maxLen;omega))
theorem m_slN{α:Type}{c:α->List DV}{xs:List α}{a:Int}{t e s len:Nat}{f:Bool}{x:Operand}{lo:Option Operand}{tt td:TyD}(h:a=xs.length)(ht:Qv P t tt)(he:Qv P e td)
  (hl:∃ y k,lo=some y/\opd env y = .lit (.int k a))
  (ho:o.op = .slice t x lo none none)(hk:tt.k = .slice e)(hx:opd env x = .own s 0 len)(hs:sto.get s=some ⟨td.size,true,f,xs.map c⟩)(hlen:xs.length=len) :
  Qq P o env sto nxt ⟨.sl (((xs.take (xs.length:Int).toNat).drop a.toNat).map c),[],[s],0⟩:=by
 subst hlen
 subst h
 obtain ⟨y,k,rfl,hy⟩:=hl
 have:=r_slN (P:=P) (nxt:=nxt) ho ht hk he hx hs (.some hy) .none rfl
 rw [Us (by rw [Ws];omega)]
 exact this
theorem m_apW{α:Type}{c:α->List DV}(xs:List α){a b:Int}{t e s0:Nat}{f:Bool}{s x:Operand}{tt td:TyD}{B:Int}(h:0<=a/\a<=b/\b<=xs.length)(hb:(((xs.take b.toNat).drop a.toNat).length:Int) * B<=140737488355328/\(((xs.take b.toNat).drop a.toNat).length:Int)<=9223372036854775807)(ht:Qv P t tt)(he:Qv P e td)
  (ho:o.op = .call ⟨.builtin .append,#[s,x],#[t,t]⟩)(hk:tt.k = .slice e)(hs:opd env s = .lit (.slice none 0 0))(hx:opd env x = .own s0 a.toNat (b.toNat - a.toNat))(hg:sto.get s0=some ⟨td.size,true,f,xs.map c⟩)
  (hz:td.zero.length=td.size)(h0:0 < td.size)(hB:(td.bytes:Int)=B)(hc:∀ a,(c a).length=td.size) :
  Qq P o env sto nxt ⟨.own nxt 0 ((xs.take b.toNat).drop a.toNat).length,[(nxt,some ⟨td.size,true,false,((xs.take b.toNat).drop a.toNat).map c⟩)],[s0],1⟩:=by
 subst hB
 obtain ⟨h1,h2,h3⟩:=h
 have e:elsF sto (opd env x)=some (((xs.take b.toNat).drop a.toNat).map c,[s0]):=by
  rw [hx]
  unfold elsF
  simp only [hg]
  rw [if_pos ⟨trivial,by rw [Wb];omega⟩,List.drop_take,U8,YS]
 have:=r_appN (P:=P) (nxt:=nxt) ho ht hk he hs e hz h0 (Qf hc _) (by rw [Wb];exact nat_le (a:=_ * _) hb.1) (by rw [Wb];unfold maxLen;omega)
 rw [Wb] at this
 exact this
theorem m_apV{α:Type}{c:α->List DV}(xs ys:List α){b:Int}{t e k:Nat}{s x:Operand}{tt td:TyD}{rs:List Nat}{B:Int}(h:0<=b/\b<=xs.length)(hb:(((xs.take b.toNat).length:Int)+ys.length) * B<=140737488355328/\((xs.take b.toNat).length:Int)+ys.length<=9223372036854775807)(ht:Qv P t tt)(he:Qv P e td)
  (ho:o.op = .call ⟨.builtin .append,#[s,x],#[t,t]⟩)(hs:opd env s = .own k 0 (b.toNat - 0))(hx:ElE env sto td.size x (ys.map c) rs)(hk:tt.k = .slice e)
  (hg:sto.get k=some ⟨td.size,true,false,xs.map c⟩)(hz:td.zero.length=td.size)(h0:0 < td.size)(hB:(td.bytes:Int)=B) :
  Qq P o env sto nxt ⟨.own nxt 0 (xs.take b.toNat++ys).length,[(k,none),(nxt,some ⟨td.size,true,false,(xs.take b.toNat++ys).map c⟩)],k :: rs,1⟩:=by
 subst hB
 obtain ⟨h1,h2⟩:=hx.ok
 rw [UW] at hs
 have hl:(xs.take b.toNat).length=b.toNat:=by rw [Ws];omega
 rw [hl] at hb
 have:=r_app (P:=P) (nxt:=nxt) ho ht hk he hs hg h1 rfl rfl (by rw [Wb];omega) rfl hz h0 h2 (by rw [Wb];exact nat_le (a:=(_+_) * _) hb.1) (by rw [Wb];unfold maxLen;omega)
 dsimp only at this
 rw [Wb] at this
 rw [WF,U8,Wn,hl]
 exact this
end
theorem nt{x:Bool}(h:x=true):(!x)=false:=by rw [h];rfl
class MixP(P:Program):Prop where
 ok:P.follows .mixedOrders=true
class TyI(P:Program)(t:Nat)(d:outParam TyD):Prop where
 ok:Qv P t d
def ndp:DV->Bool
 | .dp _ _=>false
 | _=>true
structure Sm{α:Type}(x:Option α)(v:α):Prop where
 h:x=some v
structure At{α:Type}(l:List α)(i:Int)(v:α):Prop where
 h:at_ l i=some v
section plain
variable{α β ρ σ:Type}
theorem bd{x:Option α}{K:α->Option β}{r:β}(H:Sm (x.bind K) r):∃ v,Sm x v/\Sm (K v) r:=by
 obtain ⟨v,h1,h2⟩:=bnd H.h
 exact ⟨v,⟨h1⟩,⟨h2⟩⟩
theorem ba{l:List α}{i:Int}{K:α->Option β}{r:β}(H:Sm ((at_ l i).bind K) r):∃ v,At l i v/\Sm (K v) r:=by
 obtain ⟨v,h1,h2⟩:=bnd H.h
 exact ⟨v,⟨h1⟩,⟨h2⟩⟩
theorem cq{p:Prop}[Decidable p]{A:Option β}{r:β}(H:Sm (if p then A else none) r):p/\Sm A r:=by
 obtain ⟨h1,h2⟩:=ck H.h
 exact ⟨h1,⟨h2⟩⟩
theorem fs{p:Prop}[Decidable p]{A B:Option β}{r:β}(H:Sm (if p then A else B) r):(p/\Sm A r)\/(¬ p/\Sm B r):=by
 by_cases h:p
 ·exact .inl ⟨h,⟨iT h H.h⟩⟩
 ·exact .inr ⟨h,⟨iF h H.h⟩⟩
theorem se{a r:β}(H:Sm (some a) r):a=r:=som H.h
end plain
section
variable{P:Program}{env:Env}{sto:Sto}{nxt:Nat}{o:Oper}{ops:Array Oper}{l:List Oper}{K:QdX->DSt->Prop}
theorem m_quoA{t:Nat}{x y:Operand}{t':Nat}{k:IntKind}{p q:Int}(ho:o.op = .binOp .quo t x y t':=by rfl)(hx:opd env x = .lit (.int k p):=by rfl)(hy:opd env y = .lit (.int k q):=by rfl)(h:¬ q=0:=by first | assumption | decide):Qq P o env sto nxt ⟨.lit (.int k (k.wrap (p.tdiv q))),[],[],0⟩:=m_quo h ho hx hy
theorem m_remA{t:Nat}{x y:Operand}{t':Nat}{k:IntKind}{p q:Int}(ho:o.op = .binOp .rem t x y t':=by rfl)(hx:opd env x = .lit (.int k p):=by rfl)(hy:opd env y = .lit (.int k q):=by rfl)(h:¬ q=0:=by first | assumption | decide):Qq P o env sto nxt ⟨.lit (.int k (p.tmod q)),[],[],0⟩:=m_rem h ho hx hy
theorem m_shlA{t:Nat}{x y:Operand}{t':Nat}{k j:IntKind}{p q:Int}(ho:o.op = .binOp .shl t x y t':=by rfl)(hx:opd env x = .lit (.int k p):=by rfl)(hy:opd env y = .lit (.int j q):=by rfl)(h:0<=q:=by first | assumption | decide):Qq P o env sto nxt ⟨.lit (.int k (Qcq k p q)),[],[],0⟩:=m_shlE h ho hx hy
theorem m_shrA{t:Nat}{x y:Operand}{t':Nat}{k j:IntKind}{p q:Int}(ho:o.op = .binOp .shr t x y t':=by rfl)(hx:opd env x = .lit (.int k p):=by rfl)(hy:opd env y = .lit (.int j q):=by rfl)(h:0<=q:=by first | assumption | decide):Qq P o env sto nxt ⟨.lit (.int k (Qb2 k p q)),[],[],0⟩:=m_shrE h ho hx hy
theorem m_iaSA{α:Type}{c:α->List DV}{xs:List α}{v:α}{n:Int}{t e:Nat}{x ix:Operand}{tt td:TyD}{k:IntKind}(ho:o.op = .indexAddr t x ix:=by rfl)(ht:Qv P t tt:=by exact TyI.ok)(hk:tt.k = .slice e:=by rfl)(he:Qv P e td:=by exact TyI.ok)
  (hx:opd env x = .sl (xs.map c):=by rfl)(hi:opd env ix = .lit (.int k n):=by rfl)(h:At xs n v:=by assumption)(hl:(c v).length=td.size:=by rfl):Qq P o env sto nxt ⟨.pp (c v),[],[],0⟩:=m_iaS h.h ht he ho hk hx hi hl
theorem m_iaOA{α:Type}{c:α->List DV}{xs:List α}{v:α}{n:Int}{s len z:Nat}{f1 f2:Bool}{t e:Nat}{x ix:Operand}{tt td:TyD}{k:IntKind}(ho:o.op = .indexAddr t x ix:=by rfl)(hx:opd env x = .own s 0 len:=by rfl)(ht:Qv P t tt:=by exact TyI.ok)(hk:tt.k = .slice e:=by rfl)(he:Qv P e td:=by exact TyI.ok)
  (hi:opd env ix = .lit (.int k n):=by rfl)(hs:sto.get s=some ⟨z,f1,f2,xs.map c⟩:=by rfl)(hl:xs.length=len:=by first | rfl | omega | (simp;done) | (simp;omega))(h:At xs n v:=by assumption)(hz:z=td.size:=by rfl):Qq P o env sto nxt ⟨.ptr s n.toNat 0,[],[s],0⟩:=m_iaO h.h ht he ho hx hl hk hi hs hz
theorem m_ldOA{α:Type}{c:α->List DV}{xs:List α}{v:α}{n:Int}{t:Nat}{p:Operand}{td:TyD}{s j z:Nat}{arr frz:Bool}{d:DV}(ho:o.op = .load t p:=by rfl)(ht:Qv P t td:=by exact TyI.ok)(hp:opd env p = .ptr s n.toNat j:=by rfl)(hs:sto.get s=some ⟨z,arr,frz,xs.map c⟩:=by rfl)(h:At xs n v:=by assumption)
  (hd:ldD td ((c v).drop j)=some d:=by rfl)(hn:ndp d=true:=by rfl):Qq P o env sto nxt ⟨d,[],[s],0⟩:=m_ldO h.h ht ho hp hs hd
theorem m_faA{t f:Nat}{p:Operand}{td:TyD}{fs:List (Nat×Nat)}{off size:Nat}{d:DV}{rs:List Nat}(ho:o.op = .fieldAddr t p f:=by rfl)(ht:Qv P t td:=by exact TyI.ok)(hk:td.k = .struct fs:=by rfl)(hf:fs[f]?=some (off,size):=by rfl)(h0:size≠0:=by decide)
  (hc:FaD env sto off p d rs:=by first | exact .ptr rfl rfl | exact .pp rfl):Qq P o env sto nxt ⟨d,[],rs,0⟩:=m_fa ht ho hk hf h0 hc
theorem QdL{t:Nat}{td:TyD}(ho:o.op = .alloc t:=by rfl)(ht:Qv P t td:=by exact TyI.ok)(hz:td.zero.length=td.size:=by rfl)(h0:0 < td.size:=by decide):Qq P o env sto nxt ⟨.ptr nxt 0 0,[(nxt,some ⟨td.size,false,false,[td.zero]⟩)],[],1⟩:=r_alloc ho ht hz h0
theorem m_boxA{t:Nat}{x:Operand}{td:TyD}{cs:List DV}{r:List Nat}(ho:o.op = .box t x:=by rfl)(ht:Qv P t td:=by exact TyI.ok)(hc:J9 td (opd env x)=some cs:=by rfl)(hb:boxF sto cs=some r:=by rfl)(h0:0 < td.size:=by decide) :
  Qq P o env sto nxt ⟨.ptr nxt 0 0,[(nxt,some ⟨td.size,false,false,[cs]⟩)],r,1⟩:=r_box ho ht hc hb h0
theorem QdK{t:Nat}{parts:Array (Nat×Operand)}{l:List (Nat×Operand)}{td:TyD}{fs:List (Nat×Nat)}{cells:List DV}{r:List Nat}(ho:o.op = .build t parts:=by rfl)(ht:Qv P t td:=by exact TyI.ok)(hp:parts=l.toArray:=by rfl)(hk:td.k = .struct fs:=by rfl)
  (h:Qb9 sto (fs[·]?) td.zero (l.map λp=>(p.1,opd env p.2))=some (cells,r):=by rfl):Qq P o env sto nxt ⟨.agg cells,[],r,0⟩:=r_build ho hp ht hk h
theorem m_cnvA{src dst:Nat}{x:Operand}{td td':TyD}{k q:IntKind}{n:Int}(ho:o.op = .convert src dst x:=by rfl)(hs:Qv P src td:=by exact TyI.ok)(hd:Qv P dst td':=by exact TyI.ok)(hk:td'.k = .int k:=by rfl)(hx:opd env x = .lit (.int q n):=by rfl):Qq P o env sto nxt ⟨.lit (.int k (k.wrap n)),[],[],0⟩:=r_conv ho hs hd hk hx
theorem m_lenA{x:Operand}{t:Nat}{td:TyD}{e n:Nat}{rs:List Nat}(ho:o.op = .call ⟨.builtin .len,#[x],#[t]⟩:=by rfl)(ht:Qv P t td:=by exact TyI.ok)(hk:td.k = .slice e:=by rfl)
  (hx:LenD env sto x n rs:=by first | exact .map rfl | exact .own rfl rfl | exact .nil rfl | exact .sl rfl):Qq P o env sto nxt ⟨.lit (.int .i64 n),[],rs,0⟩:=m_len ht ho hk hx
theorem m_eqBA{t:Nat}{x y:Operand}{t':Nat}{p q:Bool}{td:TyD}(ho:o.op = .binOp .eql t x y t':=by rfl)(hx:opd env x = .lit (.bool p):=by rfl)(hy:opd env y = .lit (.bool q):=by rfl)(ht:Qv P t td:=by exact TyI.ok)(hk:td.k = .bool:=by rfl):Qq P o env sto nxt ⟨.lit (.bool (p == q)),[],[],0⟩:=r_eqB ho ht hk hx hy
theorem m_neBA{t:Nat}{x y:Operand}{t':Nat}{p q:Bool}{td:TyD}(ho:o.op = .binOp .neq t x y t':=by rfl)(hx:opd env x = .lit (.bool p):=by rfl)(hy:opd env y = .lit (.bool q):=by rfl)(ht:Qv P t td:=by exact TyI.ok)(hk:td.k = .bool:=by rfl):Qq P o env sto nxt ⟨.lit (.bool (p != q)),[],[],0⟩:=r_neB ho ht hk hx hy
theorem m_loadA{t:Nat}{p:Operand}{td:TyD}{d:DV}{cs:List DV}{rs:List Nat}(ho:o.op = .load t p:=by rfl)(ht:Qv P t td:=by exact TyI.ok)(hc:Cells env sto p cs rs:=by first | exact .ptr rfl rfl rfl | exact .pp rfl)(hd:ldD td cs=some d:=by rfl)(hn:ndp d=true:=by rfl):Qq P o env sto nxt ⟨d,[],rs,0⟩:=m_load ht ho hc hd
theorem QdJ{t:Nat}{p x:Operand}{td:TyD}{us:List (Nat×Option Ob)}{rs:List Nat}(ho:o.op = .store t p x:=by rfl)(ht:Qv P t td:=by exact TyI.ok)
  (hc:StD env sto td p x us rs:=by exact .box rfl rfl rfl rfl rfl rfl rfl (by first | decide | exact VO rfl)):Qq P o env sto nxt ⟨.any,us,rs,0⟩:=m_store ht ho hc
theorem m_pickA{c x y:Operand}{t u:Bool}(ho:o.op = .pick c x y:=by rfl)(hc:opd env c = .lit (.bool t):=by rfl)(e:t=u:=by first | exact decide_eq_true Oa | exact decide_eq_false Oa | assumption | exact eq_false_of_ne_true Oa | exact congrArg not (decide_eq_true Oa) | exact congrArg not (decide_eq_false Oa) | exact nt Oa | exact congrArg not (eq_false_of_ne_true Oa) | rfl):Qq P o env sto nxt ⟨cond u (opd env x) (opd env y),[],[],0⟩:=m_pickE e ho hc
theorem gF{g t:Nat}{b c:Bool}(h1:o.guard=some (g,b):=by rfl)(h2:(ops[g]?).bind (·.dst)=some t:=by rfl)(h3:env.get t = .lit (.bool c):=by rfl)(e:c=b:=by first | exact decide_eq_true Oa | exact decide_eq_false Oa | assumption | exact eq_false_of_ne_true Oa | exact congrArg not (decide_eq_true Oa) | exact congrArg not (decide_eq_false Oa) | exact nt Oa | exact congrArg not (eq_false_of_ne_true Oa) | rfl):Grd ops o env:=gY e h1 h2 h3
structure Wr(G:Prop):Prop where
 get:G
theorem goA{d:DV}{us:List (Nat×Option Ob)}{rs:List Nat}{n:Nat}(h:Qq P o env sto nxt ⟨d,us,rs,n⟩)
  (k:QK P ops l ⟨env.put o.dst d,sto.upd us,nxt+n⟩ λouts=>K ((⟨d,us,rs,n⟩,nxt) :: outs))(hg:Grd ops o env:=by first | exact .none rfl | exact gF):QK P ops (o :: l) ⟨env,sto,nxt⟩ K:=go h k hg
theorem noA{g t:Nat}{b c:Bool}(k:QK P ops l ⟨env.put o.dst (.tup []),sto,nxt⟩ λouts=>K ((⟨.tup [],[],[],0⟩,nxt) :: outs))
  (h1:o.guard=some (g,b):=by rfl)(h2:(ops[g]?).bind (·.dst)=some t:=by rfl)(h3:env.get t = .lit (.bool c):=by rfl)(e:c=!b:=by first | exact decide_eq_true Oa | exact decide_eq_false Oa | assumption | exact eq_false_of_ne_true Oa | exact congrArg not (decide_eq_true Oa) | exact congrArg not (decide_eq_false Oa) | exact nt Oa | exact congrArg not (eq_false_of_ne_true Oa) | rfl):QK P ops (o :: l) ⟨env,sto,nxt⟩ K:=noE e k h1 h2 h3
theorem noB{g t:Nat}{b:Bool}(k:QK P ops l ⟨env.put o.dst (.tup []),sto,nxt⟩ λouts=>K ((⟨.tup [],[],[],0⟩,nxt) :: outs))
  (h1:o.guard=some (g,b):=by rfl)(h2:(ops[g]?).bind (·.dst)=some t:=by rfl)(h3:env.get t = .tup []:=by rfl):QK P ops (o :: l) ⟨env,sto,nxt⟩ K:=noU k h1 h2 h3
end
section
variable{P:Program}{nt n0:Nat}{Q:Exit->DSt->Prop}{st:DSt}{id:Nat}{ops:Array Oper}{l:List Oper}{y:Code}{G:Prop}
theorem d_cutS{β ρ:Type}{x y:Code}{X:Option β}{K:β->Option ρ}{r:ρ}(I:β->DSt)(H:Sm (X.bind K) r)
  (hx:∀ z,Sm X z->DWp P nt n0 x (QbQ (λs=>ZJ n0 s (I z)) Q) st)(hy:∀ b,Sm (K b) r->DWp P nt n0 y Q (I b)):DWp P nt n0 (.seq x y) Q st:=d_cutF I H.h (λz hz=>hx z ⟨hz⟩) λb hb=>hy b ⟨hb⟩
theorem d_cutT{β ρ:Type}{x y:Code}{X:Option (β ⊕ ρ)}{K:β->Option ρ}{r:ρ}(I:β->DSt)(H:Sm (bndR X K) r)
  (hx:∀ z,(∀ r',z = .inr r'->r'=r)->Sm X z->DWp P nt n0 x (QbQ (λs=>∃ b,z = .inl b/\ZJ n0 s (I b)) Q) st)(hy:∀ b,Sm (K b) r->DWp P nt n0 y Q (I b)):DWp P nt n0 (.seq x y) Q st:=d_cutR I H.h (λz hz h=>hx z h ⟨hz⟩) λb hb=>hy b ⟨hb⟩
theorem d_loopS{β σ:Type}{body:Code}{f:σ->Option (LS σ β)}{s0:σ}{z:β}(I:σ->DSt)(H:Sm (Qi f s0) z)(h0:ZJ n0 st (I s0))
  (hs:∀ s y,(∀ b,y = .out b->b=z)->Sm (f s) y->DWp P nt n0 body (QbQ (λs'=>∃ x',y = .go x'/\ZJ n0 s' (I x')) Q) (I s)):DWp P nt n0 (.loop body) Q st:=d_loopF I H.h h0 λs y hy h=>hs s y h ⟨hy⟩
end
section
variable{P:Program}{o:Oper}{env:Env}{sto:Sto}{nxt:Nat}
theorem At.lt{α:Type}{xs:List α}{n:Int}{v:α}(h:At xs n v):n.toNat < xs.length:=(at_lt h.h).2
theorem At.get{α:Type}{xs:List α}{n:Int}{v:α}(h:At xs n v){c:α->List DV}:(xs.map c)[n.toNat]?=some (c v):=by rw [Wg,(QeF h.h).2];rfl
theorem Qq.us{d:DV}{us us':List (Nat×Option Ob)}{rs:List Nat}{n:Nat}(h:Qq P o env sto nxt ⟨d,us,rs,n⟩)(e:us=us'):Qq P o env sto nxt ⟨d,us',rs,n⟩:=e▸h
theorem Qq.rs{d:DV}{us:List (Nat×Option Ob)}{rs rs':List Nat}{n:Nat}(h:Qq P o env sto nxt ⟨d,us,rs,n⟩)(e:∀ s∈rs,s∈rs'):Qq P o env sto nxt ⟨d,us,rs',n⟩:=λF m a h1 h2 h3 h4=>h F m a h1 h2 (λs hs=>h3 s (e s hs)) h4
theorem renO_deep{α:Type}{cd:α->List DV}{φ:Nat->Nat}{z:Nat}{f:Bool}{xs:List α}(h:∀ a,(cd a).all dpB=true):renO φ ⟨z,false,f,xs.map cd⟩=⟨z,false,f,xs.map cd⟩:=by
 unfold renO
 dsimp only
 rw [if_neg Od]
 congr 1
 rw [WS]
 refine WU λa _=>?_
 show renL φ (cd a)=cd a
 rw [J7]
 have:=WL.1 (h a)
 conv=>rhs;rw [<- YP (cd a)]
 refine WU λd hd=>?_
 have:=this d hd
 cases d with
 | lit v=>unfold ren;rfl
 | sl xs=>unfold ren;rfl
 | dp z l=>unfold ren;rfl
 | _=>cases this
theorem m_ldD{α β:Type}{cd:α->List DV}{c:β->List DV}{xs:List α}{ys:List β}{n:Int}{v:α}{t:Nat}{p:Operand}{td:TyD}{s j z zz:Nat}(h:At xs n v)(row:List DV)(ht:Qv P t td)(hj:(cd v)[j]?=some (.dp z (ys.map c)))(hr:(cd v).set j (.own nxt 0 ys.length)=row)(ho:o.op = .load t p:=by rfl)(hag:td.agg=false:=by rfl)(hsz:td.size=1:=by rfl)(hp:opd env p = .ptr s n.toNat j:=by rfl)
  (hs:sto.get s=some ⟨zz,false,false,xs.map cd⟩:=by rfl):Qq P o env sto nxt ⟨.own nxt 0 ys.length,[(s,some ⟨zz,false,false,(xs.map cd).set n.toNat row⟩),(nxt,some ⟨z,true,false,ys.map c⟩)],[s],1⟩:=by
 have:=r_ldD (P:=P) (nxt:=nxt) ho ht hag hsz hp hs rfl h.get hj
 rw [Wb] at this
 dsimp only at this
 have e:setC (xs.map cd) n.toNat j (.own nxt 0 ys.length)=(xs.map cd).set n.toNat row:=by
  unfold setC
  rw [Vx,h.get,Wy,hr]
 rw [e] at this
 exact this
theorem m_ldR{α:Type}{cd:α->List DV}{xs:List α}{n:Int}{v:α}{t:Nat}{p:Operand}{td:TyD}{s j zz:Nat}{row:List DV}{d:DV}(h:At xs n v)(ht:Qv P t td)(ho:o.op = .load t p:=by rfl)(hp:opd env p = .ptr s n.toNat j:=by rfl)
  (hs:sto.get s=some ⟨zz,false,false,(xs.map cd).set n.toNat row⟩:=by rfl)(hd:ldD td (row.drop j)=some d:=by rfl):Qq P o env sto nxt ⟨d,[],[s],0⟩ :=
 r_load ho ht hp hs (by show ((xs.map cd).set n.toNat row)[n.toNat]?=_;rw [WB (by rw [Wb];exact h.lt)]) hd
theorem m_stR{α:Type}{cd:α->List DV}{xs:List α}{n:Int}{v:α}{t:Nat}{p x:Operand}{td:TyD}{s j zz:Nat}{els:List (List DV)}{row0 cs:List DV}{r:List Nat}(h:At xs n v)(row:List DV)(he:(els=xs.map cd/\row0=cd v)\/els=(xs.map cd).set n.toNat row0)(ht:Qv P t td)(ho:o.op = .store t p x:=by rfl)(hp:opd env p = .ptr s n.toNat j:=by rfl)
  (hs:sto.get s=some ⟨zz,false,false,els⟩:=by rfl)(hc:J9 td (opd env x)=some cs:=by rfl)(hb:boxF sto cs=some r:=by rfl)(hr:Qm row0 j cs=row:=by rfl)(hj:j+cs.length<=row0.length:=by exact VO rfl):Qq P o env sto nxt ⟨.any,[(s,some ⟨zz,false,false,(xs.map cd).set n.toNat row⟩)],s :: r,0⟩:=by
 have hy:els[n.toNat]?=some row0:=by
  rcases he with ⟨rfl,rfl⟩ | rfl
  ·exact h.get
  ·rw [WB (by rw [Wb];exact h.lt)]
 have:=Qd6 (P:=P) (nxt:=nxt) ho ht hp hs rfl rfl hc hb hy hj
 dsimp only at this
 have e:els.set n.toNat (Qm row0 j cs)=(xs.map cd).set n.toNat row:=by
  rw [hr]
  rcases he with ⟨rfl,_⟩ | rfl
  ·rfl
  ·rw [List.set_set]
 rw [e] at this
 exact this
theorem m_litD{t e len:Nat}{parts:Array (Nat×Operand)}{l:List (Nat×Operand)}{tt td:TyD}{cells:List DV}{r r2:List Nat}(rows:List (List DV))(ht:Qv P t tt)(he:Qv P e td)(ho:o.op = .buildSlice t len parts:=by rfl)(hp:parts=l.toArray:=by rfl)(hk:tt.k = .slice e:=by rfl)
  (hz:td.zero.length=td.size:=by rfl)(h0:0 < td.size:=by decide)(h1:0 < len:=by decide)(hm:len * td.size<=16777216:=by decide)
  (h:Qb9 sto (λi=>some (i * td.size,td.size)) (QbZ td len) (l.map λp=>(p.1,opd env p.2))=some (cells,r):=by rfl)(hb:boxF sto cells=some r2:=by rfl)(hx:J8 len td.size cells=rows:=by rfl)(hl:len=rows.length:=by rfl) :
  Qq P o env sto nxt ⟨.own nxt 0 rows.length,[(nxt,some ⟨td.size,false,false,rows⟩)],r++r2,1⟩:=by
 have:=r_litR (P:=P) (nxt:=nxt) ho hp ht hk he hz h0 h1 hm h hb
 rw [hx,hl] at this
 exact this
theorem m_del{α:Type}{c:α->List DV}(xs:List α){a b:Int}{t e k la zz:Nat}{s x:Operand}{tt td:TyD}{rs:List Nat}(h:0<=a/\a<=b/\b<=xs.length)(ht:Qv P t tt)(he:Qv P e td)(ho:o.op = .call ⟨.builtin .append,#[s,x],#[t,t]⟩)(hs:opd env s = .own k 0 la)(hla:la=a.toNat)(hg:sto.get k=some ⟨zz,true,false,xs.map c⟩)
  (hx:elsF sto (opd env x)=some (((xs.take (xs.length:Int).toNat).drop b.toNat).map c,rs))(hb:(xs.length:Int) * td.bytes<=140737488355328/\(xs.length:Int)<=9223372036854775807)(hk:tt.k = .slice e:=by rfl)(hz:td.zero.length=td.size:=by rfl)(h0:0 < td.size:=by decide)(hez:zz=td.size:=by rfl)(hc:∀ v,(c v).length=td.size:=by exact λ_=>rfl) :
  Qq P o env sto nxt ⟨.own nxt 0 (xs.take a.toNat++(xs.take (xs.length:Int).toNat).drop b.toNat).length,[(k,none),(nxt,some ⟨td.size,true,false,(xs.take a.toNat++(xs.take (xs.length:Int).toNat).drop b.toNat).map c⟩)],k :: rs,1⟩:=by
 subst hla
 have hd:((xs.take (xs.length:Int).toNat).drop b.toNat).length=xs.length - b.toNat:=by rw [WY,Ws];omega
 have:=r_app (P:=P) (nxt:=nxt) ho ht hk he hs hg hx rfl rfl (by rw [Wb];omega) hez hz h0 (λy hy=>by obtain ⟨v,_,rfl⟩:=Wj.1 hy;exact hc v) (by
  rw [Wb,hd]
  have h1:a.toNat+(xs.length - b.toNat)<=xs.length:=by omega
  exact Ur (WG _ h1) (nat_le (a:=_ * _) hb.1)) (by rw [Wb,hd];unfold maxLen;omega)
 dsimp only at this
 rw [<- U8,<- WF,Wb,hd,show a.toNat+(xs.length - b.toNat)=(xs.take a.toNat++(xs.take (xs.length:Int).toNat).drop b.toNat).length by rw [Wn,Ws,hd];omega] at this
 exact this
theorem m_iaG{v n:Int}{N t e g:Nat}{ix:Operand}{tt td:TyD}{k:IntKind}(h:At tabL n v)(ht:Qv P t tt)(he:Qv P e td)(ho:o.op = .indexAddr t (.global g) ix:=by rfl)(hk:tt.k = .array N e:=by rfl)(hi:opd env ix = .lit (.int k n):=by rfl)(hT:gTab=some (g,tabL):=by rfl)(hl:tabL.length=N:=by rfl)(hz:td.size=1:=by rfl):Qq P o env sto nxt ⟨.pp [.lit (.int .u8 v)],[],[],0⟩:=by
 obtain ⟨h0,h1⟩:=at_lt h.h
 exact r_iaG ho ht hk he (i:=n.toNat) (by rw [Vl h0];exact hi) hT (QeF h.h).2 hz Oo
theorem m_iaX{α:Type}{xs:List α}{v:α}{n:Int}{N t e s:Nat}{x ix:Operand}{tt td:TyD}{k:IntKind}{ob:Ob}(h:At xs n v)(hN:n < (N:Int))(ht:Qv P t tt)(he:Qv P e td)(ho:o.op = .indexAddr t x ix:=by rfl)(hk:tt.k = .array N e:=by rfl)(hx:opd env x = .ptr s 0 0:=by rfl)(hi:opd env ix = .lit (.int k n):=by rfl)(hs:sto.get s=some ob:=by rfl)(hz:td.size=1:=by rfl):Qq P o env sto nxt ⟨.ptr s 0 n.toNat,[],[s],0⟩:=by
 have h0:=(at_lt h.h).1
 have:=r_iaA (P:=P) (nxt:=nxt) ho ht hk he hx (i:=n.toNat) (by rw [Vl h0];exact hi) hs Oo
 rw [hz,Vs,YN] at this
 exact this
theorem cellX{α:Type}{c1:α->DV}{xs:List α}{n:Int}{v:α}(h:At xs n v):∃ l,(xs.map c1).drop n.toNat=c1 v :: l:=by
 refine ⟨(xs.map c1).drop (n.toNat+1),?_⟩
 have h1:=(QeF h.h).2
 obtain ⟨h2,h3⟩:=Wi.1 h1
 rw [WO (by rw [Wb];exact h2),W5,h3]
theorem m_ldX{α:Type}{c1:α->DV}{xs:List α}{v:α}{n:Int}{t s z:Nat}{p:Operand}{td:TyD}{f:Bool}(h:At xs n v)(ht:Qv P t td)(hs:sto.get s=some ⟨z,false,f,[xs.map c1]⟩)(ho:o.op = .load t p:=by rfl)(hp:opd env p = .ptr s 0 n.toNat:=by rfl)(hg:td.agg=false:=by rfl)(hsz:td.size=1:=by rfl)(hl:∀ l,ldD td (c1 v :: l)=some (c1 v):=by exact λ_=>rfl):Qq P o env sto nxt ⟨c1 v,[],[s],0⟩:=by
 obtain ⟨l,hl'⟩:=cellX (c1:=c1) h
 exact r_load ho ht hp hs rfl (by rw [hl'];exact hl l)
theorem m_stX{α:Type}{c1:α->DV}{xs:List α}{v:α}{n:Int}{t s z:Nat}{p x:Operand}{td:TyD}{r:List Nat}(h:At xs n v)(a:α)(ht:Qv P t td)(hs:sto.get s=some ⟨z,false,false,[xs.map c1]⟩)(ho:o.op = .store t p x:=by rfl)(hp:opd env p = .ptr s 0 n.toNat:=by rfl)(hc:J9 td (opd env x)=some [c1 a]:=by rfl)(hb:boxF sto [c1 a]=some r:=by rfl):Qq P o env sto nxt ⟨.any,[(s,some ⟨z,false,false,[(xs.set n.toNat a).map c1]⟩)],s :: r,0⟩:=by
 have:=Qd6 (P:=P) (nxt:=nxt) ho ht hp hs rfl rfl hc hb (y:=xs.map c1) rfl (by rw [Wb];exact h.lt)
 rw [show (xs.set n.toNat a).map c1=Qm (xs.map c1) n.toNat [c1 a] by rw [YD];rfl]
 exact this
theorem delV{α:Type}{c:α->List DV}{xs:List α}{b:Int}{k lb lc zz:Nat}{x:Operand}{f:Bool}(hx:opd env x = .own k lb lc)(hlb:lb=b.toNat)(hlc:lc=(xs.length:Int).toNat - b.toNat)(hb:0<=b/\b<=xs.length)(hg:sto.get k=some ⟨zz,true,f,xs.map c⟩):elsF sto (opd env x)=some (((xs.take (xs.length:Int).toNat).drop b.toNat).map c,[k]):=by
 subst hlb hlc
 rw [hx]
 show (match sto.get k with | some ob=>if ob.arr=true/\b.toNat+((xs.length:Int).toNat - b.toNat)<=ob.els.length then some ((ob.els.drop b.toNat).take ((xs.length:Int).toNat - b.toNat),[k]) else none | none=>none)=_
 rw [hg]
 dsimp only
 rw [if_pos ⟨rfl,by rw [Wb];omega⟩,<- YS,Vb (by rw [Wb,WY];omega),Vb Oo]
theorem m_apD{α:Type}{cd:α->List DV}(xs:List α)(v:α)(row:List DV){t e k k2 len zz z2:Nat}{s x:Operand}{tt td:TyD}{B:Int}(hb:((xs.length:Int)+1) * B<=140737488355328/\(xs.length:Int)+1<=9223372036854775807)(ht:Qv P t tt)(he:Qv P e td)(ho:o.op = .call ⟨.builtin .append,#[s,x],#[t,t]⟩)(hs:opd env s = .own k 0 len)(hl:len=xs.length)(hg:sto.get k=some ⟨zz,false,false,xs.map cd⟩)(hx:opd env x = .own k2 0 1)(hg2:sto.get k2=some ⟨z2,false,false,[row]⟩)
  (hk:tt.k = .slice e:=by rfl)(hz:td.zero.length=td.size:=by rfl)(h0:0 < td.size:=by decide)(hez:zz=td.size:=by rfl)(hez2:z2=td.size:=by rfl)(hnd:noDpB [row]=true:=by rfl)(hB:(td.bytes:Int)=B:=by rfl) :
  Qq P o env sto nxt ⟨.own nxt 0 (xs++[v]).length,[(k,none),(nxt,some ⟨td.size,false,false,xs.map cd++[row]⟩)],[k,k2],1⟩:=by
 subst hl
 rw [show (xs++[v]).length=xs.length+1 by simp]
 have:=r_appR (P:=P) (nxt:=nxt) ho ht hk he hs hg hx hg2 rfl rfl (by show xs.length<=(xs.map cd).length;rw [Wb];exact Wo _) (Wo 1) hez hez2 hnd hz h0 (by subst hB;exact nat_le (a:=(_+1) * _) hb.1) (by have:=hb.2;unfold maxLen;omega)
 rw [show (⟨zz,false,false,xs.map cd⟩:Ob).els.take xs.length=xs.map cd from Vb Os,show (⟨z2,false,false,[row]⟩:Ob).els.take 1=[row] from rfl] at this
 exact this
end
section
variable{n0:Nat}{env:Env}{sto:Sto}{nxt:Nat}{α β:Type}{cd:α->List DV}{c:β->List DV}{xs:List α}{ys:List β}{n:Int}{v:α}
theorem attR{s t z zz j m:Nat}{row:List DV}(h:At xs n v)(row':List DV)(hst:Nat.beq s t=false)(hs:sto.get s=some ⟨zz,false,false,(xs.map cd).set n.toNat row⟩)(ht:sto.get t=some ⟨z,true,false,ys.map c⟩)(hm:m=ys.length)(hj:row[j]?=some (.own t 0 m))(hr:row.set j (.dp z (ys.map c))=row') :
  ZJ n0 ⟨env,sto,nxt⟩ ⟨env,(s,⟨zz,false,false,(xs.map cd).set n.toNat row'⟩) :: sto.drop t,nxt⟩ :=
 ZJ.att hs ht hst (x:=row) (by rw [WB (by rw [Wb];exact h.lt)]) (by rw [hj,hm,Wb]) (by
  unfold setC
  rw [Vx,WB (by rw [Wb];exact h.lt),Wy,hr,List.set_set])
theorem tellR{s zz:Nat}{row:List DV}(v':α)(hs:sto.get s=some ⟨zz,false,false,(xs.map cd).set n.toNat row⟩)(hr:row=cd v'):ZJ n0 ⟨env,sto,nxt⟩ ⟨env,(s,⟨zz,false,false,(xs.set n.toNat v').map cd⟩) :: sto,nxt⟩ :=
 ZJ.tell hs λm h=>by rw [hr] at h;rw [YD];exact h
theorem attL{s t z zz j m:Nat}{row:List DV}(row':List DV)(hst:Nat.beq s t=false)(hs:sto.get s=some ⟨zz,false,false,xs.map cd++[row]⟩)(ht:sto.get t=some ⟨z,true,false,ys.map c⟩)(hm:m=ys.length)(hj:row[j]?=some (.own t 0 m))(hr:row.set j (.dp z (ys.map c))=row') :
  ZJ n0 ⟨env,sto,nxt⟩ ⟨env,(s,⟨zz,false,false,xs.map cd++[row']⟩) :: sto.drop t,nxt⟩ :=
 ZJ.att hs ht hst (i:=xs.length) (x:=row) (by rw [WJ Os];simp) (by rw [hj,hm,Wb]) (by
  unfold setC
  rw [Vx,WJ Os]
  simp [hr])
theorem tellL{s zz:Nat}{row:List DV}(v':α)(hs:sto.get s=some ⟨zz,false,false,xs.map cd++[row]⟩)(hr:row=cd v'):ZJ n0 ⟨env,sto,nxt⟩ ⟨env,(s,⟨zz,false,false,(xs++[v']).map cd⟩) :: sto,nxt⟩ :=
 ZJ.tell hs λm h=>by rw [hr] at h;simpa using h
theorem tellS{s zz:Nat}{row:List DV}(h:At xs n v)(hs:sto.get s=some ⟨zz,false,false,(xs.map cd).set n.toNat row⟩)(hr:row=cd v):ZJ n0 ⟨env,sto,nxt⟩ ⟨env,(s,⟨zz,false,false,xs.map cd⟩) :: sto,nxt⟩ :=
 ZJ.tell hs λm h'=>by
  rw [hr] at h'
  have e:(xs.map cd).set n.toNat (cd v)=xs.map cd:=by
   rw [<- YD]
   congr 1
   obtain ⟨h1,rfl⟩:=at_elem h.h
   exact List.set_getElem_self h1
  rw [e] at h'
  exact h'
theorem Qcp{s z0:Nat}(hs:sto.get s=some ⟨z0,true,false,[]⟩):ZJ n0 ⟨env,sto,nxt⟩ ⟨env,(s,⟨z0,false,false,([]:List α).map cd⟩) :: sto,nxt⟩:=ZJ.unarr hs
theorem Qb1{s z:Nat}{φ:Nat->Nat}{f:Bool}(hs:sto.get s=some (renO φ ⟨z,false,f,xs.map cd⟩))(h:∀ a,(cd a).all dpB=true):ZJ n0 ⟨env,sto,nxt⟩ ⟨env,(s,⟨z,false,f,xs.map cd⟩) :: sto,nxt⟩:=ZJ.tell hs λm h'=>by rw [renO_deep h] at h';exact h'
def lD(z:Nat)(c:β->List DV)(q:List β):List DV:=[.dp z (q.map c)]
end
def sAt(s:ByteArray)(i:Int):Option Int:=if 0<=i then (s[i.toNat]?).map λb=>((b.toNat:Nat):Int) else none
section
variable{P:Program}{o:Oper}{env:Env}{sto:Sto}{nxt:Nat}
theorem m_lenS{x:Operand}{t:Nat}{td:TyD}{s:ByteArray}(ht:Qv P t td)(ho:o.op = .call ⟨.builtin .len,#[x],#[t]⟩:=by rfl)(hk:td.k = .str:=by rfl)(hx:opd env x = .lit (.string s):=by rfl):Qq P o env sto nxt ⟨.lit (.int .i64 (s.size:Nat)),[],[],0⟩:=.ran λF m a hI hE _ _=>by
 have h1:=hE x (by simp [ho,Op.operands,Call.operands])
 rw [hx] at h1
 have hu:=ht.kind
 rw [hk] at hu
 exact Ran.val hI (v:=.int .i64 (s.size:Nat)) (by simp [execOp,ho,resolve,invoke,builtin,h1.lit_inv,Builtin.len_,run_underlying hu,goInt]) (.pure (.lit _ rfl))
theorem m_idS{x ix:Operand}{t:Nat}{td:TyD}{s:ByteArray}{k:IntKind}{i v:Int}(h:sAt s i=some v)(ht:Qv P t td)(ho:o.op = .index t x ix:=by rfl)(hk:td.k = .str:=by rfl)(hx:opd env x = .lit (.string s):=by rfl)(hi:opd env ix = .lit (.int k i):=by rfl):Qq P o env sto nxt ⟨.lit (.int .u8 v),[],[],0⟩:=.ran λF m a hI hE _ _=>by
 have h1:=hE x (by simp [ho,Op.operands])
 have h2:=hE ix (by simp [ho,Op.operands])
 rw [hx] at h1
 rw [hi] at h2
 have hu:=ht.kind
 rw [hk] at hu
 unfold sAt at h
 split at h
 ·rename_i h0
  cases hb:s[i.toNat]? with
  | none=>rw [hb] at h;cases h
  | some b =>
   rw [hb] at h
   obtain rfl:=Vq h
   exact Ran.val hI (v:=.int .u8 (b.toNat:Nat)) (by simp [execOp,ho,h1.lit_inv,h2.lit_inv,Instr.index,asIntOf,run_underlying hu,h0,hb]) (.pure (.lit _ rfl))
 ·cases h
theorem Qdn{t:Nat}{x y:Operand}{t':Nat}{p q:ByteArray}(ho:o.op = .binOp .eql t x y t':=by rfl)(hx:opd env x = .lit (.string p):=by rfl)(hy:opd env y = .lit (.string q):=by rfl):Qq P o env sto nxt ⟨.lit (.bool (p.toList == q.toList)),[],[],0⟩:=.ran λF m a hI hE _ _=>by
 have h1:=hE x (by simp [ho,Op.operands])
 have h2:=hE y (by simp [ho,Op.operands])
 rw [hx] at h1
 rw [hy] at h2
 exact QaI rfl ho hI h1.lit_inv h2.lit_inv (by simp [eqGuard,binOp,Op.stringOp])
theorem m_fcv{src dst:Nat}{x:Operand}{td td':TyD}{q:IntKind}{n:Int}(hs:Qv P src td)(hd:Qv P dst td')(ho:o.op = .convert src dst x:=by rfl)(hk:td'.k = .flt .f64:=by rfl)(hx:opd env x = .lit (.int q n):=by rfl) :
  Qq P o env sto nxt ⟨.lit (.float .f64 (FloatKind.f64.nearest n)),[],[],0⟩:=.ran λF m a hI hE _ _=>by
 have h1:=hE x (by simp [ho,Op.operands])
 rw [hx] at h1
 have h2:=hd.kind
 rw [hk] at h2
 dsimp only at h2
 obtain ⟨u,hu⟩:∃ u,P.underlying src=some u:=by
  have h1:=hs.kind
  obtain ⟨kk,_,_,_⟩:=td
  cases kk <;> dsimp only at h1
  case struct=>obtain ⟨f,h1,_⟩:=h1;exact ⟨_,h1⟩
  case other=>obtain ⟨f,h1,_⟩:=h1;exact ⟨_,h1⟩
  all_goals exact ⟨_,h1⟩
 refine Ran.val hI (v:=.float .f64 (FloatKind.f64.nearest n)) ?_ (.pure (.lit _ rfl))
 cases u <;> simp [execOp,ho,h1.lit_inv,convert,run_underlying hu,run_underlying h2,Conv.intToFloat]
theorem m_fqu{t:Nat}{x y:Operand}{t':Nat}{p q r:Nat}(h:FloatKind.f64.format.div p q=some r)(ho:o.op = .binOp .quo t x y t':=by rfl)(hx:opd env x = .lit (.float .f64 p):=by rfl)(hy:opd env y = .lit (.float .f64 q):=by rfl):Qq P o env sto nxt ⟨.lit (.float .f64 r),[],[],0⟩:=.ran λF m a hI hE _ _=>by
 have h1:=hE x (by simp [ho,Op.operands])
 have h2:=hE y (by simp [ho,Op.operands])
 rw [hx] at h1
 rw [hy] at h2
 exact QaI rfl ho hI h1.lit_inv h2.lit_inv (by simp [eqGuard,binOp,Op.floatArith,h])
def Qez(op:BinOp)(p q:Nat):Bool:=let c:=FloatKind.f64.format.order p q;match op with
 | .eql=>c == some .eq
 | .neq=>c != some .eq
 | .lss=>c == some .lt
 | .leq=>c == some .lt || c == some .eq
 | .gtr=>c == some .gt
 | .geq=>c == some .gt || c == some .eq
 | _=>false
theorem Qdm{op:BinOp}{t:Nat}{x y:Operand}{t':Nat}{p q:Nat}(hop:op = .eql\/op = .neq\/op = .lss\/op = .leq\/op = .gtr\/op = .geq)(ho:o.op = .binOp op t x y t':=by rfl)(hx:opd env x = .lit (.float .f64 p):=by rfl)(hy:opd env y = .lit (.float .f64 q):=by rfl):Qq P o env sto nxt ⟨.lit (.bool (Qez op p q)),[],[],0⟩:=.ran λF m a hI hE _ _=>by
 have h1:=hE x (by simp [ho,Op.operands])
 have h2:=hE y (by simp [ho,Op.operands])
 rw [hx] at h1
 rw [hy] at h2
 refine QaI rfl ho hI h1.lit_inv h2.lit_inv ?_
 rcases hop with rfl | rfl | rfl | rfl | rfl | rfl <;> simp [eqGuard,binOp,Op.floatCmp,Qez]
theorem m_max{x y:Operand}{ty:Array TypeId}{k:IntKind}{p q:Int}(ho:o.op = .call ⟨.builtin .max,#[x,y],ty⟩:=by rfl)(hx:opd env x = .lit (.int k p):=by rfl)(hy:opd env y = .lit (.int k q):=by rfl):Qq P o env sto nxt ⟨.lit (.int k (max p q)),[],[],0⟩:=.ran λF m a hI hE _ _=>by
 have h1:=hE x (by simp [ho,Op.operands,Call.operands])
 have h2:=hE y (by simp [ho,Op.operands,Call.operands])
 rw [hx] at h1
 rw [hy] at h2
 exact Ran.val hI (v:=.int k (max p q)) (by simp [execOp,ho,resolve,invoke,builtin,h1.lit_inv,h2.lit_inv,Builtin.max_,Builtin.max2] <;> (split <;> omega)) (.pure (.lit _ rfl))
theorem m_bdX{t e n:Nat}{parts:Array (Nat×Operand)}{l:List (Nat×Operand)}{td te:TyD}{cells:List DV}{r:List Nat}(ht:Qv P t td)(he:Qv P e te)(ho:o.op = .build t parts:=by rfl)(hp:parts=l.toArray:=by rfl)(hk:td.k = .array n e:=by rfl)
  (h:Qb9 sto (λi=>some (i * te.size,te.size)) td.zero (l.map λp=>(p.1,opd env p.2))=some (cells,r):=by rfl):Qq P o env sto nxt ⟨.agg cells,[],r,0⟩:=.ran λF m a hI hE hH _=>by
 subst hp
 obtain ⟨i,z,z1,_,_,z2,z3,z6,_⟩:=QaG ht
 obtain ⟨i2,_,y1,y2,_,_,_,_,_⟩:=QaG he
 have hu:=ht.kind
 rw [hk] at hu
 dsimp only at hu
 have hz:Reps m z.cells.toList td.zero:=⟨by rw [<- z3];simp,λi v d hv hd=>by
  rw [<- z3,Wg,hv] at hd
  injection hd with hd
  subst hd
  exact .pure (.lit v (z6 v (by simpa using List.mem_of_getElem? hv)))⟩
 obtain ⟨us,k1,k2⟩:=QdT (parts:=l) (λp hp=>hE p.2 (by simp only [ho,Op.operands];simp;exact ⟨p.1,hp⟩)) hz h hH
 rw [UB] at k1
 have hb:P.built t (l.map λp=>(p.1,a.eval p.2))=some us.toArray:=by
  unfold Program.built
  simp only [z1,hu,z2,y1,y2]
  simpa using k1
 refine Ran.val hI (v:=.agg us.toArray) ?_ (.agg k2.1 k2.2)
 have hr:=run_build (P:=P) m.w t (l.map λp=>(p.1,a.eval p.2)).toArray us.toArray (by simpa using hb)
 simp only [execOp,ho]
 rw [show (l.toArray.map λ(x:Nat×Operand)=>match x with | (i,x)=>(i,a.eval x))=(l.map λp=>(p.1,a.eval p.2)).toArray from by simp]
 rw [Sem.run_bind,hr]
 rfl
theorem m_ext1{x:Operand}{ty:Array TypeId}{f:Nat}{u v:Value}(h:∀ w,(callFunc f #[u]).run P w = .ok (.value v) w)(h1:v.oneCell'=true)(ho:o.op = .call ⟨.value (.func f),#[x],ty⟩:=by rfl)(hx:opd env x = .lit u:=by rfl):Qq P o env sto nxt ⟨.lit v,[],[],0⟩:=.ran λF m a hI hE _ _=>by
 have h2:=hE x (by simp [ho,Op.operands,Call.operands])
 rw [hx] at h2
 have hv:=h2.lit_inv
 have hf:a.eval (.func f) = .func (.func f) #[] #[]:=rfl
 exact Ran.val hI (v:=v) (by simp only [execOp,ho];simp [resolve,hf,hv,Deferred.ofValue,invoke,h]) (.pure (.lit _ h1))
end
abbrev aO(z:Nat)(l:List (List DV)):Ob:=⟨z,true,false,l⟩
abbrev bO(z:Nat)(l:List DV):Ob:=⟨z,false,false,[l]⟩
abbrev r0:Ren:=[]
abbrev r1:Ren:=[(0,0)]
abbrev r2:Ren:=[(0,0),(1,1)]
abbrev r3:Ren:=[(0,0),(1,1),(2,2)]
abbrev r4:Ren:=[(0,0),(1,1),(2,2),(3,3)]
abbrev r5:Ren:=[(0,0),(1,1),(2,2),(3,3),(4,4)]
abbrev r6:Ren:=[(0,0),(1,1),(2,2),(3,3),(4,4),(5,5)]
abbrev r7:Ren:=[(0,0),(1,1),(2,2),(3,3),(4,4),(5,5),(6,6)]
abbrev r8:Ren:=[(0,0),(1,1),(2,2),(3,3),(4,4),(5,5),(6,6),(7,7)]
abbrev r10:Ren:=[(0,0),(1,1),(2,2),(3,3),(4,4),(5,5),(6,6),(7,7),(8,8),(9,9)]
abbrev r13:Ren:=[(0,0),(1,1),(2,2),(3,3),(4,4),(5,5),(6,6),(7,7),(8,8),(9,9),(10,10),(11,11),(12,12)]
abbrev r14:Ren:=[(0,0),(1,1),(2,2),(3,3),(4,4),(5,5),(6,6),(7,7),(8,8),(9,9),(10,10),(11,11),(12,12),(13,13)]
abbrev r15:Ren:=[(0,0),(1,1),(2,2),(3,3),(4,4),(5,5),(6,6),(7,7),(8,8),(9,9),(10,10),(11,11),(12,12),(13,13),(14,14)]
section
variable{α β ρ σ:Type}{G:Prop}
theorem xd{x:Option α}{K:α->Option β}{r:β}(k:∀ v,Sm x v->Sm (K v) r->G):Sm (x.bind K) r->G:=λH=>by
 obtain ⟨v,h1,h2⟩:=bd H
 exact k v h1 h2
theorem xa{l:List α}{i:Int}{K:α->Option β}{r:β}(k:∀ v,At l i v->Sm (K v) r->G):Sm ((at_ l i).bind K) r->G:=λH=>by
 obtain ⟨v,h1,h2⟩:=ba H
 exact k v h1 h2
theorem xc{p:Prop}[Decidable p]{A:Option β}{r:β}(k:p->Sm A r->G):Sm (if p then A else none) r->G:=λH=>by
 obtain ⟨h1,h2⟩:=cq H
 exact k h1 h2
theorem xs{p:Prop}[Decidable p]{A B:Option β}{r:β}(k1:p->Sm A r->G)(k2:¬ p->Sm B r->G):Sm (if p then A else B) r->G:=λH=>by
 rcases fs H with ⟨h1,h2⟩ | ⟨h1,h2⟩
 ·exact k1 h1 h2
 ·exact k2 h1 h2
theorem xo{v z:β}{y:LS σ β}(hq:∀ b,y = .out b->b=z)(k:Sm (some v) z->G):Sm (some (LS.out v)) y->G:=λH=>k ⟨by rw [hq v (se H).symm]⟩
theorem xr{v r:ρ}{z:β ⊕ ρ}(hr:∀ r',z = .inr r'->r'=r)(k:Sm (some v) r->G):Sm (some (Sum.inr v)) z->G:=λH=>k ⟨by rw [hr v (se H).symm]⟩
theorem xx{A B X:Prop}(f:A->B)(k:X->A):X->B:=λx=>f (k x)
end
section
variable{P:Program}{nt n0:Nat}{Q:Exit->DSt->Prop}{st:DSt}{X:Prop}
theorem Qcz{c:Code}(h:X->Q .normal st)(hc:c = .skip:=by rfl):X->DWp P nt n0 c Q st:=λx=>by subst hc;exact d_skip (h x)
theorem QcA{id:Nat}{c:Code}(h:X->Q (.exit id) st)(hc:c = .exit id:=by rfl):X->DWp P nt n0 c Q st:=λx=>by subst hc;exact d_exit (h x)
theorem Qdo{c:Code}(h:X->Q .ret st)(hc:c = .ret:=by rfl):X->DWp P nt n0 c Q st:=λx=>by subst hc;exact d_ret (h x)
theorem QaT{l:Nat}{c:Code}(h:X->Q .normal st)(hc:c = .label l:=by rfl):X->DWp P nt n0 c Q st:=λx=>by subst hc;exact d_label (h x)
theorem QaU{id:Nat}{c c0:Code}(h:X->DWp P nt n0 c (blockD id Q) st)(hc0:c0 = .block id c:=by rfl):X->DWp P nt n0 c0 Q st:=λx=>by subst hc0;exact d_block (h x)
theorem a_condA{c:Operand}{c0 x y:Code}{b:Bool}(h:X->DWp P nt n0 x Q st)(h0:c0 = .cond c x y:=by rfl)(hc:opd st.env c = .lit (.bool b):=by rfl)(e:b=true:=by first | exact decide_eq_true Oa | exact decide_eq_false Oa | assumption | exact eq_false_of_ne_true Oa | exact nt (decide_eq_true Oa) | exact congrArg not (decide_eq_false Oa) | exact congrArg not Oa | exact congrArg not (eq_false_of_ne_true Oa)):X->DWp P nt n0 c0 Q st:=λq=>by subst h0;exact d_condE hc e (h q)
theorem a_condB{c:Operand}{c0 x y:Code}{b:Bool}(h:X->DWp P nt n0 y Q st)(h0:c0 = .cond c x y:=by rfl)(hc:opd st.env c = .lit (.bool b):=by rfl)(e:b=false:=by first | exact decide_eq_true Oa | exact decide_eq_false Oa | assumption | exact eq_false_of_ne_true Oa | exact nt (decide_eq_true Oa) | exact congrArg not (decide_eq_false Oa) | exact congrArg not Oa | exact congrArg not (eq_false_of_ne_true Oa)):X->DWp P nt n0 c0 Q st:=λq=>by subst h0;exact d_condN hc e (h q)
theorem a_condC{c:Operand}{c0 x y:Code}(h:X->DWp P nt n0 x Q st)(h0:c0 = .cond c x y:=by rfl)(hc:opd st.env c = .lit (.bool true):=by rfl):X->DWp P nt n0 c0 Q st:=λq=>by subst h0;exact d_condT hc (h q)
theorem a_condD{c:Operand}{c0 x y:Code}(h:X->DWp P nt n0 y Q st)(h0:c0 = .cond c x y:=by rfl)(hc:opd st.env c = .lit (.bool false):=by rfl):X->DWp P nt n0 c0 Q st:=λq=>by subst h0;exact d_condF hc (h q)
theorem sq{x y:Code}(h:∀ K:DSt->Prop,(∀ s,DWp P nt n0 y Q s->K s)->X->DWp P nt n0 x (QbQ K Q) st):X->DWp P nt n0 (.seq x y) Q st:=λq=>d_seq λK k=>h K k q
theorem a_k{K D:DSt->Prop}{s:DSt}(k:∀ s,D s->K s)(h:X->D s):X->K s:=λx=>k s (h x)
variable{id:Nat}{ops:Array Oper}{l:List Oper}{y c0:Code}
theorem b_rs(h:QK P l.toArray l st λouts s=>seqB nt l outs=true/\(X->DWp P nt n0 y Q s))(h0:c0 = .seq (.region id ops false) y:=by rfl)(hl:ops=l.toArray:=by rfl):X->DWp P nt n0 c0 Q st:=λx=>by subst h0;exact d_rs hl (h.mono λo s hs=>⟨hs.1,hs.2 x⟩)
theorem b_as[MixP P](h:QK P l.toArray l st λouts s=>(seqB nt l outs=true/\ordB l.toArray outs=true)/\(X->DWp P nt n0 y Q s))(h0:c0 = .seq (.region id ops true) y:=by rfl)(hl:ops=l.toArray:=by rfl)(hk:backB l.toArray=true:=by kernel_rfl):X->DWp P nt n0 c0 Q st:=λx=>by subst h0;exact d_as MixP.ok hl hk (h.mono λo s hs=>⟨hs.1,hs.2 x⟩)
theorem b_rg(h:QK P l.toArray l st λouts s=>seqB nt l outs=true/\(X->Q .normal s))(h0:c0 = .region id ops false:=by rfl)(hl:ops=l.toArray:=by rfl):X->DWp P nt n0 c0 Q st:=λx=>by subst h0;exact d_region hl (h.mono λo s hs=>⟨hs.1,hs.2 x⟩)
theorem b_ay[MixP P](h:QK P l.toArray l st λouts s=>(seqB nt l outs=true/\ordB l.toArray outs=true)/\(X->Q .normal s))(h0:c0 = .region id ops true:=by rfl)(hl:ops=l.toArray:=by rfl)(hk:backB l.toArray=true:=by kernel_rfl):X->DWp P nt n0 c0 Q st:=λx=>by subst h0;exact d_any MixP.ok hl hk (h.mono λo s hs=>⟨hs.1,hs.2 x⟩)
theorem b_ayK[MixP P](K:List Nat)(h:QK P l.toArray l st λouts s=>(seqB nt l outs=true/\ordK K l.toArray outs=true/\cstP st.sto st.nxt outs K)/\(X->Q .normal s))(h0:c0 = .region id ops true:=by rfl)(hl:ops=l.toArray:=by rfl)(hk:backB l.toArray=true:=by kernel_rfl):X->DWp P nt n0 c0 Q st:=λx=>by subst h0;exact d_anyK MixP.ok hl hk (h.mono λo s hs=>⟨hs.1,hs.2 x⟩)
theorem DWp.sto{c:Code}{env:Env}{sto sto':Sto}{nxt:Nat}(e:∀ s,sto.get s=sto'.get s)(h:DWp P nt n0 c Q ⟨env,sto',nxt⟩):DWp P nt n0 c Q ⟨env,sto,nxt⟩:=λC h1 h2 a w hs=>h C h1 h2 a w (by
 obtain ⟨m,hm,hM,hF⟩:=hs
 exact ⟨m,hm,⟨hM.inv,hM.M,hM.size,hM.defers,hM.org,hM.lim0,hM.env,λs ob ho=>hM.sto s ob (by show Sto.get sto s=some ob;rw [e];exact ho)⟩,hF⟩)
theorem Qg{c:Code}{env:Env}{sto:Sto}{nxt:Nat}(b j z:Nat){n:Nat}{fz:Bool}{cs:List DV}(hz:0 < z)(hb:sto.get b=some ⟨n,false,fz,[cs]⟩)(hj:cs[j]?=some (.lit (.slice none 0 0)))
  (h:DWp P nt n0 c Q ⟨env,(b,⟨n,false,fz,[cs.set j (.own nxt 0 0)]⟩) :: (nxt,⟨z,true,false,[]⟩) :: sto,nxt+1⟩):DWp P nt n0 c Q ⟨env,sto,nxt⟩ :=
 d_nilB b j z hz hb hj (DWp.sto (λs=>by
  simp only [Sto.get_cons,Sto.drop_get]
  by_cases h1:s=b
  ·rw [if_pos h1,if_pos h1]
  ·by_cases h2:s=nxt
   ·simp [h1,h2]
   ·simp [h1,h2]) h)
theorem QU{c:Code}{env:Env}{sto:Sto}{nxt:Nat}(k z:Nat)(hz:0 < z)(hk:env.get k = .lit (.slice none 0 0))(h:DWp P nt n0 c Q ⟨env.put (some k) (.own nxt 0 0),(nxt,⟨z,true,false,[]⟩) :: sto,nxt+1⟩):DWp P nt n0 c Q ⟨env,sto,nxt⟩ :=
 d_nil k z hz hk (DWp.sto (λs=>by
  simp only [Sto.get_cons,Sto.drop_get]
  by_cases h2:s=nxt
  ·simp [h2]
  ·simp [h2]) h)
theorem ct{β ρ:Type}{x y:Code}{Y:Option β}{K:β->Option ρ}{r:ρ}(I:β->DSt)
  (hx:∀ z,Sm Y z->DWp P nt n0 x (QbQ (λs=>ZJ n0 s (I z)) Q) st)(hy:∀ b,Sm (K b) r->DWp P nt n0 y Q (I b)):Sm (Y.bind K) r->DWp P nt n0 (.seq x y) Q st:=λH=>d_cutS I H hx hy
theorem cu{β ρ:Type}{x y:Code}{Y:Option (β ⊕ ρ)}{K:β->Option ρ}{r:ρ}(I:β->DSt)
  (hx:∀ z,(∀ r',z = .inr r'->r'=r)->Sm Y z->DWp P nt n0 x (QbQ (λs=>∃ b,z = .inl b/\ZJ n0 s (I b)) Q) st)(hy:∀ b,Sm (K b) r->DWp P nt n0 y Q (I b)):Sm (bndR Y K) r->DWp P nt n0 (.seq x y) Q st:=λH=>d_cutT I H hx hy
theorem lp{β σ:Type}{body:Code}{f:σ->Option (LS σ β)}{s0:σ}{z:β}(I:σ->DSt)(h0:ZJ n0 st (I s0))
  (hs:∀ s y,(∀ b,y = .out b->b=z)->Sm (f s) y->DWp P nt n0 body (QbQ (λs'=>∃ x',y = .go x'/\ZJ n0 s' (I x')) Q) (I s)):Sm (Qi f s0) z->DWp P nt n0 (.loop body) Q st:=λH=>d_loopS I H h0 hs
theorem mk0 {β:Type} {v:Option β} {r:β} {f:FuncId} {fn:Func} {c:Code} {ds:List DV} {S:Sto} {rd:DV} {S':Sto} (hf:P.funcs[f]?=some fn)
  (h:Sm v r->DWp P (ds.length+(fn.ntmps - ds.length)) S.length c (RetD P fn S.length rd S') ⟨envOf 0 ds,S,S.length⟩) (hname:(fn.name == "runtime.NumGoroutine")=false:=by rfl) (hb:fn.body=some c:=by rfl):Sm v r->DCall P f ds S rd S':=λH=>DCall.mk hf hname hb (h H)
end
section
variable{n0:Nat}{st:DSt}{β σ ρ:Type}{I:β->DSt}{v z:β}{fr1 fr2:List Nat}
end
section
variable{P:Program}{env:Env}{sto:Sto}{nxt:Nat}{o:Oper}
theorem takeAll{td:TyD}{y:List DV}(hag:td.agg=true)(hl:y.length=td.size):ldD td y=some (.agg y):=by
 unfold ldD
 rw [if_pos hag,if_pos Oo,<- hl,WH]
theorem m_loadW{t s z:Nat}{p:Operand}{td:TyD}{y:List DV}{f1 f2:Bool}(ho:o.op = .load t p:=by rfl)(hp:opd env p = .ptr s 0 0:=by rfl)(ht:Qv P t td:=by exact TyI.ok)(hag:td.agg=true:=by rfl)(hs:sto.get s=some ⟨z,f1,f2,[y]⟩:=by rfl)(hl:y.length=td.size:=by rfl) :
  Qq P o env sto nxt ⟨.agg y,[],[s],0⟩:=r_load ho ht hp hs rfl (takeAll (y:=y.drop 0) hag (by rw [Uq];exact hl))
theorem m_loadP{t:Nat}{p:Operand}{td:TyD}{y:List DV}(ho:o.op = .load t p:=by rfl)(hp:opd env p = .pp y:=by rfl)(ht:Qv P t td:=by exact TyI.ok)(hag:td.agg=true:=by rfl)(hl:y.length=td.size:=by rfl) :
  Qq P o env sto nxt ⟨.agg y,[],[],0⟩:=r_loadP ho ht hp (takeAll hag hl)
theorem QdH{t s z:Nat}{p x:Operand}{td:TyD}{y cs:List DV}{r:List Nat}(ho:o.op = .store t p x:=by rfl)(hp:opd env p = .ptr s 0 0:=by rfl)(hs:sto.get s=some ⟨z,false,false,[y]⟩:=by rfl)(ht:Qv P t td:=by exact TyI.ok)(hc:J9 td (opd env x)=some cs:=by rfl)
  (hl:y.length=cs.length:=by rfl)(hb:boxF sto cs=some r:=by rfl):Qq P o env sto nxt ⟨.any,[(s,some ⟨z,false,false,[cs]⟩)],s :: r,0⟩:=by
 have:=Qd6 (P:=P) (nxt:=nxt) ho ht hp hs rfl rfl hc hb (y:=y) rfl Oo
 have e:∀ (cs y a:List DV),y.length=cs.length->Qm (a++y) a.length cs=a++cs:=by
  intro cs
  induction cs with
  | nil=>intro y a h;rw [VK.1 h];rfl
  | cons c cs ih =>
   intro y a h
   cases y with
   | nil=>cases h
   | cons b y =>
    have:=ih y (a++[c]) (by simpa using h)
    rw [Wn,WX,WX] at this
    rw [Qm,U1 _ _ (Wo _),V4]
    exact this
 have e0:=e cs y [] hl
 dsimp only at this
 rw [show Qm y 0 cs=cs from e0] at this
 exact this
theorem QdI{t s j z:Nat}{p x:Operand}{td:TyD}{y cs row:List DV}{r:List Nat}(ho:o.op = .store t p x:=by rfl)(hp:opd env p = .ptr s 0 j:=by rfl)(hs:sto.get s=some ⟨z,false,false,[y]⟩:=by rfl)(ht:Qv P t td:=by exact TyI.ok)(hc:J9 td (opd env x)=some cs:=by rfl)
  (hj:j+cs.length<=y.length:=by first | decide | exact VO rfl)(hb:boxF sto cs=some r:=by rfl)(hr:Qm y j cs=row:=by dsimp only [Qm,List.set];exact rfl):Qq P o env sto nxt ⟨.any,[(s,some ⟨z,false,false,[row]⟩)],s :: r,0⟩:=by
 have:=Qd6 (P:=P) (nxt:=nxt) ho ht hp hs rfl rfl hc hb (y:=y) rfl hj
 dsimp only at this
 rw [hr] at this
 exact this
theorem frzN{sto:Sto}:Qb8 sto []=[]:=rfl
theorem frzC{sto:Sto}{s z:Nat}{a f:Bool}{els:List (List DV)}{l:List Nat}{u:List (Nat×Option Ob)}(h:sto.get s=some ⟨z,a,f,els⟩)(k:Qb8 sto l=u):Qb8 sto (s :: l)=(s,some ⟨z,a,true,els⟩) :: u:=by
 show (match sto.get s with | some ob=>(s,some { ob with frz:=true }) :: Qb8 sto l | none=>Qb8 sto l)=_
 rw [h,k]
def cuM(φ:Nat->Nat)(S':Sto)(ks:List (Nat×Nat)):List (Nat×Option Ob):=ks.map λp=>(p.2,(S'.get p.1).map (renO φ))
theorem cuN{φ:Nat->Nat}{S':Sto}:cuM φ S' []=[]:=rfl
theorem cuA{φ:Nat->Nat}{S':Sto}{a b z:Nat}{f:Bool}{els:List (List DV)}{l:List (Nat×Nat)}{u:List (Nat×Option Ob)}(h:S'.get a=some ⟨z,true,f,els⟩)(k:cuM φ S' l=u):cuM φ S' ((a,b) :: l)=(b,some ⟨z,true,f,els⟩) :: u:=by
 subst k
 unfold cuM
 rw [W3]
 show (b,(S'.get a).map (renO φ)) :: _=_
 rw [h]
 rfl
theorem cuB{φ:Nat->Nat}{S':Sto}{a b z:Nat}{f:Bool}{els els':List (List DV)}{l:List (Nat×Nat)}{u:List (Nat×Option Ob)}(h:S'.get a=some ⟨z,false,f,els⟩)(he:els.map (renL φ)=els')(k:cuM φ S' l=u):cuM φ S' ((a,b) :: l)=(b,some ⟨z,false,f,els'⟩) :: u:=by
 subst k he
 unfold cuM
 rw [W3]
 show (b,(S'.get a).map (renO φ)) :: _=_
 rw [h]
 rfl
theorem cuZ{φ:Nat->Nat}{S':Sto}{a b:Nat}{l:List (Nat×Nat)}{u:List (Nat×Option Ob)}(h:S'.get a=none)(k:cuM φ S' l=u):cuM φ S' ((a,b) :: l)=(b,none) :: u:=by
 subst k
 unfold cuM
 rw [W3]
 show (b,(S'.get a).map (renO φ)) :: _=_
 rw [h]
 rfl
def cuK(ρ:Ren)(n0 nxt:Nat)(S':Sto):List (Nat×Nat):=ρ++(List.range (idb S' n0 - n0)).map λi=>(n0+i,nxt+i)
theorem cu_eq(ρ:Ren)(n0 nxt:Nat)(S':Sto):JM ρ n0 nxt S'=cuM (phi ρ n0 nxt) S' (cuK ρ n0 nxt S'):=by
 unfold JM cuM cuK
 rw [WF,WS]
 rfl
theorem updS{ρ:Ren}{n0 nxt:Nat}{S':Sto}{ks:List (Nat×Nat)}{u:List (Nat×Option Ob)}(h:cuK ρ n0 nxt S'=ks)(k:cuM (phi ρ n0 nxt) S' ks=u):JM ρ n0 nxt S'=u:=by rw [cu_eq,h,k]
theorem updG{sto:Sto}{ρ:Ren}{n0 nxt:Nat}{S':Sto}{u v:List (Nat×Option Ob)}{fr:List Nat}(h:JM ρ n0 nxt S'=u)(k:Qb8 sto fr=v):JM ρ n0 nxt S'++Qb8 sto fr=u++v:=by rw [h,k]
structure CS(ρ:Ren)(P:Program)(f:Nat)(ds:List DV)(S:Sto)(r:DV)(S':Sto):Prop where
 h:DCall P f ds S r S'
 a:scB r=true
 b:ScS S'
structure CG(ρ:Ren)(P:Program)(f:Nat)(ds:List DV)(S:Sto)(r:DV)(S':Sto):Prop where
 h:DCall P f ds S r S'
theorem cS{f:Nat}{ds:List DV}{S:Sto}{r:DV}{S':Sto}(ρ:Ren)(h:DCall P f ds S r S')(b:ScS S':=by repeat' (first | exact ScS.nil | refine ScS.box (scL rfl) ?_ | refine ScS.cons (scC λ_=>rfl) ?_))(a:scB r=true:=by rfl):CS ρ P f ds S r S':=⟨h,a,b⟩
theorem cG{f:Nat}{ds:List DV}{S:Sto}{r:DV}{S':Sto}(ρ:Ren)(h:DCall P f ds S r S'):CG ρ P f ds S r S':=⟨h⟩
theorem m_cSA{c:Operand}{args:Array Operand}{l:List Operand}{ty:Array TypeId}{f:Nat}{cap ds:List DV}{S:Sto}{r:DV}{S':Sto}{fr1 fr2:List Nat}{ρ:Ren}{us:List (Nat×Option Ob)}(ho:o.op = .call ⟨.value c,args,ty⟩:=by rfl)(hl:args=l.toArray:=by rfl)(hcl:Qan env c f cap:=by first | exact .func | exact .tmp rfl | exact .clo rfl)(hc:CS ρ P f ds S r S':=by assumption)
  (hA:CvL sto ρ (l.map (opd env)++cap) ds fr1:=by repeat' (first | exact CvL.nil | apply CvL.cons | exact .lit | exact .own rfl | exact .sl | exact .nil | exact .ptr rfl | exact .ownE rfl (by first | assumption | exact Eq.symm Oa | omega | (simp;done) | (simp;omega)) | exact .frzM rfl (by first | assumption | exact Eq.symm Oa | omega | (simp;done) | (simp;omega)) | exact .dfzM rfl (λ_=>rfl) (λ_=>rfl) (by first | assumption | exact Eq.symm Oa | omega | (simp;done) | (simp;omega)) | exact .any | exact .pp | apply Cv.agg | apply Cv.tup | apply Cv.fn))
  (hS:CvS sto ρ S fr2:=by repeat' (first | exact CvS.nil | apply CvS.cons rfl rfl | exact .arr rfl | exact CvO.same (dpM λ_=>rfl) | apply CvO.rowAt (λ_=>rfl) | apply CvO.box | exact CvL.nil | apply CvL.cons | exact CvL.numbers _ | exact CvL.bools _ | exact .lit | exact .own rfl | exact .sl | exact .nil | exact .ptr rfl | exact .ownE rfl (by first | assumption | exact Eq.symm Oa | omega | (simp;done) | (simp;omega)) | exact .frzM rfl (by first | assumption | exact Eq.symm Oa | omega | (simp;done) | (simp;omega)) | exact .dfzM rfl (λ_=>rfl) (λ_=>rfl) (by first | assumption | exact Eq.symm Oa | omega | (simp;done) | (simp;omega))))
  (hok:okC ρ (fr1++fr2) S.length=true:=by rfl)(hkn:Qem sto ρ=true:=by rfl)(hu:JM ρ S.length nxt S'=us:=by apply updS rfl;repeat' (first | exact cuN | apply cuA rfl | apply cuB rfl rfl | apply cuZ rfl)):Qq P o env sto nxt ⟨ren (phi ρ S.length nxt) r,us,ρ.map (·.2)++(fr1++fr2),idb S' S.length - S.length⟩:=hu▸m_cS ρ hc.h hc.a hc.b ho hl hcl hA hS hok hkn
theorem m_cGA{c:Operand}{args:Array Operand}{l:List Operand}{ty:Array TypeId}{f:Nat}{cap ds:List DV}{S:Sto}{r:DV}{S':Sto}{fr1 fr2:List Nat}{ρ:Ren}{us:List (Nat×Option Ob)}(ho:o.op = .call ⟨.value c,args,ty⟩:=by rfl)(hl:args=l.toArray:=by rfl)(hcl:Qan env c f cap:=by first | exact .func | exact .tmp rfl | exact .clo rfl)(hc:CG ρ P f ds S r S':=by assumption)
  (hA:CvL sto ρ (l.map (opd env)++cap) ds fr1:=by repeat' (first | exact CvL.nil | apply CvL.cons | exact .lit | exact .own rfl | exact .sl | exact .nil | exact .ptr rfl | exact .ownE rfl (by first | assumption | exact Eq.symm Oa | omega | (simp;done) | (simp;omega)) | exact .frzM rfl (by first | assumption | exact Eq.symm Oa | omega | (simp;done) | (simp;omega)) | exact .dfzM rfl (λ_=>rfl) (λ_=>rfl) (by first | assumption | exact Eq.symm Oa | omega | (simp;done) | (simp;omega)) | exact .any | exact .pp | apply Cv.agg | apply Cv.tup | apply Cv.fn))
  (hS:CvS sto ρ S fr2:=by repeat' (first | exact CvS.nil | apply CvS.cons rfl rfl | exact .arr rfl | exact CvO.same (dpM λ_=>rfl) | apply CvO.rowAt (λ_=>rfl) | apply CvO.box | exact CvL.nil | apply CvL.cons | exact CvL.numbers _ | exact CvL.bools _ | exact .lit | exact .own rfl | exact .sl | exact .nil | exact .ptr rfl | exact .ownE rfl (by first | assumption | exact Eq.symm Oa | omega | (simp;done) | (simp;omega)) | exact .frzM rfl (by first | assumption | exact Eq.symm Oa | omega | (simp;done) | (simp;omega)) | exact .dfzM rfl (λ_=>rfl) (λ_=>rfl) (by first | assumption | exact Eq.symm Oa | omega | (simp;done) | (simp;omega))))
  (hok:okC ρ (fr1++fr2) S.length=true:=by rfl)(hkn:Qem sto ρ=true:=by rfl)(hu:JM ρ S.length nxt S'++Qb8 sto (fr1++fr2)=us:=by apply updG;apply updS rfl;all_goals (repeat' (first | exact cuN | apply cuA rfl | apply cuB rfl rfl | apply cuZ rfl | exact frzN | apply frzC rfl))):Qq P o env sto nxt ⟨ren (phi ρ S.length nxt) r,us,ρ.map (·.2)++(fr1++fr2),idb S' S.length - S.length⟩:=hu▸m_cG ρ hc.h ho hl hcl hA hS hok hkn
end
section
variable{T G:Prop}
theorem au(k:G)(h:Wr G->T:=by
  intro hG
  repeat (show QK _ _ (_ :: _) _ _;first
   | refine noA ?_ | refine noB ?_
   | refine goA m_move ?_ | refine goA m_loadW ?_ | refine goA m_loadP ?_ | refine goA m_loadA ?_ | refine goA m_set ?_
   | (show QK _ _ (⟨_,.binOp _ _ _ _ _,_,_,_,_⟩ :: _) _ _;first | refine goA m_add ?_ | refine goA m_lss ?_ | refine goA m_sub ?_ | refine goA m_eql ?_ | refine goA m_neq ?_ | refine goA m_leq ?_ | refine goA m_gtr ?_ | refine goA m_geq ?_ | refine goA m_mul ?_ | refine goA m_shrA ?_ | refine goA m_shlA ?_ | refine goA m_bits ?_ | refine goA m_quoA ?_ | refine goA m_remA ?_ | refine goA m_eqBA ?_ | refine goA m_neBA ?_ | refine goA m_eqS ?_ | refine goA m_neS ?_)
   | (show QK _ _ (⟨_,.call _,_,_,_,_⟩ :: _) _ _;first | refine goA m_lenA ?_ | refine goA m_cSA ?_ | refine goA m_cGA ?_)
   | (show QK _ _ (⟨_,.indexAddr _ _ _,_,_,_,_⟩ :: _) _ _;first | refine goA m_iaSA ?_ | refine goA m_iaOA ?_)
   | refine goA m_faA ?_ | refine goA m_ldOA ?_ | refine goA m_ext ?_ | refine goA m_nil ?_ | refine goA QdH ?_ | refine goA QdI ?_ | refine goA QdJ ?_ | refine goA QdL ?_ | refine goA m_boxA ?_ | refine goA QdK ?_ | refine goA m_pickA ?_ | refine goA m_not ?_ | refine goA m_cnvA ?_ | refine goA m_neg ?_ | refine goA m_xorE ?_ | refine goA m_func ?_)
  first
   | refine .nil ⟨Ok,?_⟩ | refine .nil ⟨⟨Ok,Ok⟩,?_⟩
   | refine .nil ⟨⟨Ok,Ok,by repeat' (first | exact trivial | exact rfl | exact .inl rfl | exact .inr rfl | refine And.intro ?_ ?_)⟩,?_⟩
   | skip
  repeat (first
   | refine Qcz ?_ | refine QaU ?_ | refine QcA ?_ | refine QaT ?_ | refine a_k Oa ?_)
  exact hG.get):T:=h ⟨k⟩
theorem ar(k:G)(h:Wr G->T:=by
  intro hG
  repeat (first
   | refine Qcz ?_ | refine QaU ?_ | refine QcA ?_ | refine QaT ?_ | refine a_k Oa ?_)
  (first | refine b_rs ?_ | refine b_as ?_ | refine b_rg ?_ | refine b_ay ?_)
  repeat (show QK _ _ (_ :: _) _ _;first
   | refine noA ?_ | refine noB ?_
   | refine goA m_move ?_ | refine goA m_loadW ?_ | refine goA m_loadP ?_ | refine goA m_loadA ?_ | refine goA m_set ?_
   | (show QK _ _ (⟨_,.binOp _ _ _ _ _,_,_,_,_⟩ :: _) _ _;first | refine goA m_add ?_ | refine goA m_lss ?_ | refine goA m_sub ?_ | refine goA m_eql ?_ | refine goA m_neq ?_ | refine goA m_leq ?_ | refine goA m_gtr ?_ | refine goA m_geq ?_ | refine goA m_mul ?_ | refine goA m_shrA ?_ | refine goA m_shlA ?_ | refine goA m_bits ?_ | refine goA m_quoA ?_ | refine goA m_remA ?_ | refine goA m_eqBA ?_ | refine goA m_neBA ?_ | refine goA m_eqS ?_ | refine goA m_neS ?_)
   | (show QK _ _ (⟨_,.call _,_,_,_,_⟩ :: _) _ _;first | refine goA m_lenA ?_ | refine goA m_cSA ?_ | refine goA m_cGA ?_)
   | (show QK _ _ (⟨_,.indexAddr _ _ _,_,_,_,_⟩ :: _) _ _;first | refine goA m_iaSA ?_ | refine goA m_iaOA ?_)
   | refine goA m_faA ?_ | refine goA m_ldOA ?_ | refine goA m_ext ?_ | refine goA m_nil ?_ | refine goA QdH ?_ | refine goA QdI ?_ | refine goA QdJ ?_ | refine goA QdL ?_ | refine goA m_boxA ?_ | refine goA QdK ?_ | refine goA m_pickA ?_ | refine goA m_not ?_ | refine goA m_cnvA ?_ | refine goA m_neg ?_ | refine goA m_xorE ?_ | refine goA m_func ?_)
  first
   | refine .nil ⟨Ok,?_⟩ | refine .nil ⟨⟨Ok,Ok⟩,?_⟩
   | refine .nil ⟨⟨Ok,Ok,by repeat' (first | exact trivial | exact rfl | exact .inl rfl | exact .inr rfl | refine And.intro ?_ ?_)⟩,?_⟩
   | skip
  repeat (first
   | refine Qcz ?_ | refine QaU ?_ | refine QcA ?_ | refine QaT ?_ | refine a_k Oa ?_)
  exact hG.get):T:=h ⟨k⟩
theorem ca(k:G)(h:Wr G->T:=by
  intro hG
  first | refine a_condA ?_ | refine a_condC ?_
  repeat (first
   | refine Qcz ?_ | refine QaU ?_ | refine QcA ?_ | refine QaT ?_ | refine a_k Oa ?_)
  exact hG.get):T:=h ⟨k⟩
theorem cb(k:G)(h:Wr G->T:=by
  intro hG
  first | refine a_condB ?_ | refine a_condD ?_
  repeat (first
   | refine Qcz ?_ | refine QaU ?_ | refine QcA ?_ | refine QaT ?_ | refine a_k Oa ?_)
  exact hG.get):T:=h ⟨k⟩
theorem da(k:G)(h:Wr G->T:=by
  intro hG
  first | refine a_condA ?_ | refine a_condC ?_
  repeat (first
   | refine Qcz ?_ | refine QaU ?_ | refine QcA ?_ | refine QaT ?_ | refine a_k Oa ?_)
  (first | refine b_rs ?_ | refine b_as ?_ | refine b_rg ?_ | refine b_ay ?_)
  repeat (show QK _ _ (_ :: _) _ _;first
   | refine noA ?_ | refine noB ?_
   | refine goA m_move ?_ | refine goA m_loadW ?_ | refine goA m_loadP ?_ | refine goA m_loadA ?_ | refine goA m_set ?_
   | (show QK _ _ (⟨_,.binOp _ _ _ _ _,_,_,_,_⟩ :: _) _ _;first | refine goA m_add ?_ | refine goA m_lss ?_ | refine goA m_sub ?_ | refine goA m_eql ?_ | refine goA m_neq ?_ | refine goA m_leq ?_ | refine goA m_gtr ?_ | refine goA m_geq ?_ | refine goA m_mul ?_ | refine goA m_shrA ?_ | refine goA m_shlA ?_ | refine goA m_bits ?_ | refine goA m_quoA ?_ | refine goA m_remA ?_ | refine goA m_eqBA ?_ | refine goA m_neBA ?_ | refine goA m_eqS ?_ | refine goA m_neS ?_)
   | (show QK _ _ (⟨_,.call _,_,_,_,_⟩ :: _) _ _;first | refine goA m_lenA ?_ | refine goA m_cSA ?_ | refine goA m_cGA ?_)
   | (show QK _ _ (⟨_,.indexAddr _ _ _,_,_,_,_⟩ :: _) _ _;first | refine goA m_iaSA ?_ | refine goA m_iaOA ?_)
   | refine goA m_faA ?_ | refine goA m_ldOA ?_ | refine goA m_ext ?_ | refine goA m_nil ?_ | refine goA QdH ?_ | refine goA QdI ?_ | refine goA QdJ ?_ | refine goA QdL ?_ | refine goA m_boxA ?_ | refine goA QdK ?_ | refine goA m_pickA ?_ | refine goA m_not ?_ | refine goA m_cnvA ?_ | refine goA m_neg ?_ | refine goA m_xorE ?_ | refine goA m_func ?_)
  first
   | refine .nil ⟨Ok,?_⟩ | refine .nil ⟨⟨Ok,Ok⟩,?_⟩
   | refine .nil ⟨⟨Ok,Ok,by repeat' (first | exact trivial | exact rfl | exact .inl rfl | exact .inr rfl | refine And.intro ?_ ?_)⟩,?_⟩
   | skip
  repeat (first
   | refine Qcz ?_ | refine QaU ?_ | refine QcA ?_ | refine QaT ?_ | refine a_k Oa ?_)
  exact hG.get):T:=h ⟨k⟩
theorem db(k:G)(h:Wr G->T:=by
  intro hG
  first | refine a_condB ?_ | refine a_condD ?_
  repeat (first
   | refine Qcz ?_ | refine QaU ?_ | refine QcA ?_ | refine QaT ?_ | refine a_k Oa ?_)
  (first | refine b_rs ?_ | refine b_as ?_ | refine b_rg ?_ | refine b_ay ?_)
  repeat (show QK _ _ (_ :: _) _ _;first
   | refine noA ?_ | refine noB ?_
   | refine goA m_move ?_ | refine goA m_loadW ?_ | refine goA m_loadP ?_ | refine goA m_loadA ?_ | refine goA m_set ?_
   | (show QK _ _ (⟨_,.binOp _ _ _ _ _,_,_,_,_⟩ :: _) _ _;first | refine goA m_add ?_ | refine goA m_lss ?_ | refine goA m_sub ?_ | refine goA m_eql ?_ | refine goA m_neq ?_ | refine goA m_leq ?_ | refine goA m_gtr ?_ | refine goA m_geq ?_ | refine goA m_mul ?_ | refine goA m_shrA ?_ | refine goA m_shlA ?_ | refine goA m_bits ?_ | refine goA m_quoA ?_ | refine goA m_remA ?_ | refine goA m_eqBA ?_ | refine goA m_neBA ?_ | refine goA m_eqS ?_ | refine goA m_neS ?_)
   | (show QK _ _ (⟨_,.call _,_,_,_,_⟩ :: _) _ _;first | refine goA m_lenA ?_ | refine goA m_cSA ?_ | refine goA m_cGA ?_)
   | (show QK _ _ (⟨_,.indexAddr _ _ _,_,_,_,_⟩ :: _) _ _;first | refine goA m_iaSA ?_ | refine goA m_iaOA ?_)
   | refine goA m_faA ?_ | refine goA m_ldOA ?_ | refine goA m_ext ?_ | refine goA m_nil ?_ | refine goA QdH ?_ | refine goA QdI ?_ | refine goA QdJ ?_ | refine goA QdL ?_ | refine goA m_boxA ?_ | refine goA QdK ?_ | refine goA m_pickA ?_ | refine goA m_not ?_ | refine goA m_cnvA ?_ | refine goA m_neg ?_ | refine goA m_xorE ?_ | refine goA m_func ?_)
  first
   | refine .nil ⟨Ok,?_⟩ | refine .nil ⟨⟨Ok,Ok⟩,?_⟩
   | refine .nil ⟨⟨Ok,Ok,by repeat' (first | exact trivial | exact rfl | exact .inl rfl | exact .inr rfl | refine And.intro ?_ ?_)⟩,?_⟩
   | skip
  repeat (first
   | refine Qcz ?_ | refine QaU ?_ | refine QcA ?_ | refine QaT ?_ | refine a_k Oa ?_)
  exact hG.get):T:=h ⟨k⟩
theorem resW{P:Program}{st:DSt}{t ty k z:Nat}{td:TyD}{y:List DV}{f1 f2:Bool}{l:List ResultVar}{ds:List DV}(ht:Qv P ty td)(h1:st.env.get t = .ptr k 0 0)(hag:td.agg=true)(h2:st.sto.get k=some ⟨z,f1,f2,[y]⟩)(hl:y.length=td.size)(h:ResL P st l ds):ResL P st (.cell t ty :: l) (.agg y :: ds):=by
 refine .cell ht h1 h2 rfl ?_ h
 unfold ldD
 rw [if_pos hag,Uq,if_pos Oo,<- hl,WH]
structure Qc4(ρ:Ren):Prop where
theorem finF{P:Program}{fn:Func}{n0:Nat}{r:DV}{S':Sto}{e:Exit}{st:DSt}{ds:List DV}{fr1 fr2:List Nat}{ρ:Ren}(hρ:Qc4 ρ)
  (hl:ResL P st fn.results.toList ds)
  (h1:Cv st.sto ρ (resV ds) r fr1:=by repeat' (first | exact .lit | exact .own rfl | exact .sl | exact .nil | exact .ptr rfl | exact .ownE rfl (by first | assumption | exact Eq.symm Oa | omega | (simp;done) | (simp;omega)) | exact .frzM rfl (by first | assumption | exact Eq.symm Oa | omega | (simp;done) | (simp;omega)) | exact .dfzM rfl (λ_=>rfl) (λ_=>rfl) (by first | assumption | exact Eq.symm Oa | omega | (simp;done) | (simp;omega)) | exact CvL.nil | apply CvL.cons | apply Cv.agg | apply Cv.tup | apply Cv.fn | exact .any | exact .pp))
  (h2:CvS st.sto ρ S' fr2:=by repeat' (first | exact CvS.nil | apply CvS.cons rfl rfl | exact .arr rfl | exact CvO.same (dpM λ_=>rfl) | apply CvO.rowAt (λ_=>rfl) | apply CvO.box | exact CvL.nil | apply CvL.cons | exact CvL.numbers _ | exact CvL.bools _ | exact .lit | exact .own rfl | exact .sl | exact .nil | exact .ptr rfl | exact .ownE rfl (by first | assumption | exact Eq.symm Oa | omega | (simp;done) | (simp;omega)) | exact .frzM rfl (by first | assumption | exact Eq.symm Oa | omega | (simp;done) | (simp;omega)) | exact .dfzM rfl (λ_=>rfl) (λ_=>rfl) (by first | assumption | exact Eq.symm Oa | omega | (simp;done) | (simp;omega)) | exact .any | exact .pp))
  (h3:okR ρ (fr1++fr2) n0 (idb S' n0)=true:=by rfl)
  (he:e = .normal\/e = .ret:=by first | exact .inr rfl | exact .inl rfl):RetD P fn n0 r S' e st:=finE ρ hl h1 h2 h3 he
theorem ft(ρ:Ren)(h:Qc4 ρ->T:=by
  intro hρ
  first | refine Qdo ?_ | skip
  intro H
  have e:=se H
  subst e
  change RetD _ _ _ _ _ _ _
  exact finF hρ (.tmp .nil)):T:=h ⟨⟩
theorem ftt(ρ:Ren)(h:Qc4 ρ->T:=by
  intro hρ
  first | refine Qdo ?_ | skip
  intro H
  have e:=se H
  subst e
  change RetD _ _ _ _ _ _ _
  exact finF hρ (.tmp (.tmp .nil))):T:=h ⟨⟩
theorem fttt(ρ:Ren)(h:Qc4 ρ->T:=by
  intro hρ
  first | refine Qdo ?_ | skip
  intro H
  have e:=se H
  subst e
  change RetD _ _ _ _ _ _ _
  exact finF hρ (.tmp (.tmp (.tmp .nil)))):T:=h ⟨⟩
theorem Qeu(ρ:Ren)(h:Qc4 ρ->T:=by
  intro hρ
  first | refine Qdo ?_ | skip
  intro H
  have e:=se H
  subst e
  change RetD _ _ _ _ _ _ _
  exact finF hρ (.tmp (.tmp (.tmp (.tmp (.tmp .nil)))))):T:=h ⟨⟩
theorem fw(ρ:Ren)(h:Qc4 ρ->T:=by
  intro hρ
  first | refine Qdo ?_ | skip
  intro H
  have e:=se H
  subst e
  change RetD _ _ _ _ _ _ _
  exact finF hρ (resW TyI.ok rfl rfl rfl rfl .nil)):T:=h ⟨⟩
theorem fwt(ρ:Ren)(h:Qc4 ρ->T:=by
  intro hρ
  first | refine Qdo ?_ | skip
  intro H
  have e:=se H
  subst e
  change RetD _ _ _ _ _ _ _
  exact finF hρ (resW TyI.ok rfl rfl rfl rfl (.tmp .nil))):T:=h ⟨⟩
theorem fww(ρ:Ren)(h:Qc4 ρ->T:=by
  intro hρ
  first | refine Qdo ?_ | skip
  intro H
  have e:=se H
  subst e
  change RetD _ _ _ _ _ _ _
  exact finF hρ (resW TyI.ok rfl rfl rfl rfl (resW TyI.ok rfl rfl rfl rfl .nil))):T:=h ⟨⟩
theorem fwtt(ρ:Ren)(h:Qc4 ρ->T:=by
  intro hρ
  first | refine Qdo ?_ | skip
  intro H
  have e:=se H
  subst e
  change RetD _ _ _ _ _ _ _
  exact finF hρ (resW TyI.ok rfl rfl rfl rfl (.tmp (.tmp .nil)))):T:=h ⟨⟩
theorem fwwt(ρ:Ren)(h:Qc4 ρ->T:=by
  intro hρ
  first | refine Qdo ?_ | skip
  intro H
  have e:=se H
  subst e
  change RetD _ _ _ _ _ _ _
  exact finF hρ (resW TyI.ok rfl rfl rfl rfl (resW TyI.ok rfl rfl rfl rfl (.tmp .nil)))):T:=h ⟨⟩
theorem ftwt(ρ:Ren)(h:Qc4 ρ->T:=by
  intro hρ
  first | refine Qdo ?_ | skip
  intro H
  have e:=se H
  subst e
  change RetD _ _ _ _ _ _ _
  exact finF hρ (.tmp (resW TyI.ok rfl rfl rfl rfl (.tmp .nil)))):T:=h ⟨⟩
theorem fwttt(ρ:Ren)(h:Qc4 ρ->T:=by
  intro hρ
  first | refine Qdo ?_ | skip
  intro H
  have e:=se H
  subst e
  change RetD _ _ _ _ _ _ _
  exact finF hρ (resW TyI.ok rfl rfl rfl rfl (.tmp (.tmp (.tmp .nil))))):T:=h ⟨⟩
theorem ftw(ρ:Ren)(h:Qc4 ρ->T:=by
  intro hρ
  first | refine Qdo ?_ | skip
  intro H
  have e:=se H
  subst e
  change RetD _ _ _ _ _ _ _
  exact finF hρ (.tmp (resW TyI.ok rfl rfl rfl rfl .nil))):T:=h ⟨⟩
end
inductive PlE(env:Env){β:Type}:List Nat->List (Nat×(β->DV))->(β->Env)->Prop
 | nil:PlE env [] [] (λ_=>[])
 | put {k:Nat} {f:β->DV} {l:List (Nat×(β->DV))} {E:β->Env}:PlE env [] l E->PlE env [] ((k,f) :: l) (λb=>(k,f b) :: E b)
 | lit {k:Nat} {v:Value} {l:List Nat} {p:List (Nat×(β->DV))} {E:β->Env}:env.get k = .lit v->PlE env l p E->PlE env (k :: l) p (λb=>(k,.lit v) :: E b)
 | own {k s i n:Nat} {l:List Nat} {p:List (Nat×(β->DV))} {E:β->Env}:env.get k = .own s i n->PlE env l p E->PlE env (k :: l) p (λb=>(k,.own s i n) :: E b)
 | ptr {k s i n:Nat} {l:List Nat} {p:List (Nat×(β->DV))} {E:β->Env}:env.get k = .ptr s i n->PlE env l p E->PlE env (k :: l) p (λb=>(k,.ptr s i n) :: E b)
 | sl {k:Nat} {v:List (List DV)} {l:List Nat} {p:List (Nat×(β->DV))} {E:β->Env}:env.get k = .sl v->PlE env l p E->PlE env (k :: l) p (λb=>(k,.sl v) :: E b)
 | agg {k:Nat} {v:List DV} {l:List Nat} {p:List (Nat×(β->DV))} {E:β->Env}:env.get k = .agg v->PlE env l p E->PlE env (k :: l) p (λb=>(k,.agg v) :: E b)
 | tup {k:Nat} {v:List DV} {l:List Nat} {p:List (Nat×(β->DV))} {E:β->Env}:env.get k = .tup v->PlE env l p E->PlE env (k :: l) p (λb=>(k,.tup v) :: E b)
 | fn {k f:Nat} {v:List DV} {l:List Nat} {p:List (Nat×(β->DV))} {E:β->Env}:env.get k = .fn f v->PlE env l p E->PlE env (k :: l) p (λb=>(k,.fn f v) :: E b)
inductive Rw{β:Type}:List DV->List (Nat×(β->DV))->(β->List DV)->Prop
 | nil {row:List DV}:Rw row [] (λ_=>row)
 | hit {d:DV} {row:List DV} {f:β->DV} {l:List (Nat×(β->DV))} {R:β->List DV}:Rw row l R->Rw (d :: row) ((0,f) :: l) (λb=>f b :: R b)
 | miss {d:DV} {row:List DV} {n:Nat} {f:β->DV} {l:List (Nat×(β->DV))} {R:β->List DV}:Rw row ((n,f) :: l) R->Rw (d :: row) ((n+1,f) :: l) (λb=>d :: R b)
inductive PlS(sto:Sto){β:Type}:List Nat->List (Nat×List (Nat×(β->DV)))->List (Nat×(β->Ob))->(β->Sto)->Prop
 | nil:PlS sto [] [] [] (λ_=>[])
 | put {k:Nat} {f:β->Ob} {l:List (Nat×(β->Ob))} {S:β->Sto}:PlS sto [] [] l S->PlS sto [] [] ((k,f) :: l) (λb=>(k,f b) :: S b)
 | cel {k z:Nat} {fz:Bool} {row:List DV} {q:List (Nat×(β->DV))} {R:β->List DV} {c:List (Nat×List (Nat×(β->DV)))} {l:List (Nat×(β->Ob))} {S:β->Sto}:sto.get k=some ⟨z,false,fz,[row]⟩->Rw row q R->PlS sto [] c l S->PlS sto [] ((k,q) :: c) l (λb=>(k,⟨z,false,fz,[R b]⟩) :: S b)
 | keep {k z:Nat} {a fz:Bool} {els:List (List DV)} {ks:List Nat} {c:List (Nat×List (Nat×(β->DV)))} {l:List (Nat×(β->Ob))} {S:β->Sto}:sto.get k=some ⟨z,a,fz,els⟩->PlS sto ks c l S->PlS sto (k :: ks) c l (λb=>(k,⟨z,a,fz,els⟩) :: S b)
inductive RI:Sto->Ren->Ren->Prop
 | nil {ex:Ren}:RI [] ex ex
 | skip {k s:Nat} {ob:Ob} {S:Sto} {ex ρ:Ren}:ex.get k=some s->RI S ex ρ->RI ((k,ob) :: S) ex ρ
 | cons {k:Nat} {ob:Ob} {S:Sto} {ex ρ:Ren}:ex.get k=none->RI S ex ρ->RI ((k,ob) :: S) ex ((k,k) :: ρ)
theorem wkJ{n0:Nat}{st st':DSt}{fr1 fr2:List Nat}{ρ:Ren}(ex:Ren)(hρ:RI st'.sto ex ρ:=by repeat (first | exact RI.nil | apply RI.cons rfl | apply RI.skip rfl))
  (h1:CvE st.sto ρ st.env st'.env fr1:=by repeat' (first | exact CvE.nil | apply CvE.cons | exact .lit | exact .own rfl | exact .sl | exact .nil | exact .ptr rfl | exact .ownE rfl (by first | assumption | exact Eq.symm Oa | omega | (simp;done) | (simp;omega)) | exact .frzM rfl (by first | assumption | exact Eq.symm Oa | omega | (simp;done) | (simp;omega)) | exact .dfzM rfl (λ_=>rfl) (λ_=>rfl) (by first | assumption | exact Eq.symm Oa | omega | (simp;done) | (simp;omega)) | exact .any | exact .pp | exact CvL.nil | apply CvL.cons | apply Cv.agg | apply Cv.tup | apply Cv.fn))
  (h2:CvS st.sto ρ st'.sto fr2:=by repeat' (first | exact CvS.nil | apply CvS.cons rfl rfl | exact .arr rfl | exact CvO.same (dpM λ_=>rfl) | apply CvO.rowAt (λ_=>rfl) | apply CvO.box | exact CvL.nil | apply CvL.cons | exact CvL.numbers _ | exact CvL.bools _ | exact .lit | exact .own rfl | exact .sl | exact .nil | exact .ptr rfl | exact .ownE rfl (by first | assumption | exact Eq.symm Oa | omega | (simp;done) | (simp;omega)) | exact .frzM rfl (by first | assumption | exact Eq.symm Oa | omega | (simp;done) | (simp;omega)) | exact .dfzM rfl (λ_=>rfl) (λ_=>rfl) (by first | assumption | exact Eq.symm Oa | omega | (simp;done) | (simp;omega)) | exact .any | exact .pp))
  (h3:okR ρ (fr1++fr2) n0 st'.nxt=true:=by rfl):ZJ n0 st st':=wkE ρ h1 h2 h3
structure ExIs(ex:Ren):Prop where
theorem wkK{n0:Nat}{st st':DSt}{fr1 fr2:List Nat}{ρ ex:Ren}(he:ExIs ex)(hρ:RI st'.sto ex ρ:=by repeat (first | exact RI.nil | apply RI.cons rfl | apply RI.skip rfl))
  (h1:CvE st.sto ρ st.env st'.env fr1:=by repeat' (first | exact CvE.nil | apply CvE.cons | exact .lit | exact .own rfl | exact .sl | exact .nil | exact .ptr rfl | exact .ownE rfl (by first | assumption | exact Eq.symm Oa | omega | (simp;done) | (simp;omega)) | exact .frzM rfl (by first | assumption | exact Eq.symm Oa | omega | (simp;done) | (simp;omega)) | exact .dfzM rfl (λ_=>rfl) (λ_=>rfl) (by first | assumption | exact Eq.symm Oa | omega | (simp;done) | (simp;omega)) | exact .any | exact .pp | exact CvL.nil | apply CvL.cons | apply Cv.agg | apply Cv.tup | apply Cv.fn))
  (h2:CvS st.sto ρ st'.sto fr2:=by repeat' (first | exact CvS.nil | apply CvS.cons rfl rfl | exact .arr rfl | exact CvO.same (dpM λ_=>rfl) | apply CvO.rowAt (λ_=>rfl) | apply CvO.box | exact CvL.nil | apply CvL.cons | exact CvL.numbers _ | exact CvL.bools _ | exact .lit | exact .own rfl | exact .sl | exact .nil | exact .ptr rfl | exact .ownE rfl (by first | assumption | exact Eq.symm Oa | omega | (simp;done) | (simp;omega)) | exact .frzM rfl (by first | assumption | exact Eq.symm Oa | omega | (simp;done) | (simp;omega)) | exact .dfzM rfl (λ_=>rfl) (λ_=>rfl) (by first | assumption | exact Eq.symm Oa | omega | (simp;done) | (simp;omega)) | exact .any | exact .pp))
  (h3:okR ρ (fr1++fr2) n0 st'.nxt=true:=by rfl):ZJ n0 st st':=wkE ρ h1 h2 h3
theorem wJ{T:Prop}(ex:Ren)(h:ExIs ex->T:=by
  intro hx H
  have e:=se H
  subst e
  first | exact wkK hx | exact ⟨_,rfl,wkK hx⟩):T:=h ⟨⟩
section
variable{P:Program}{nt n0:Nat}{Q:Exit->DSt->Prop}{st:DSt}
theorem cT{β ρ:Type}{x y:Code}{Y:Option β}{K:β->Option ρ}{r:ρ}(kE:List Nat)(pE:List (Nat×(β->DV)))(kS:List Nat)(cS:List (Nat×List (Nat×(β->DV))))(pS:List (Nat×(β->Ob)))(n:Nat){E:β->Env}{S:β->Sto}
  (hx:∀ z,Sm Y z->DWp P nt n0 x (QbQ (λs=>ZJ n0 s ⟨E z,S z,n⟩) Q) st)(hy:∀ b,Sm (K b) r->DWp P nt n0 y Q ⟨E b,S b,n⟩)
  (hE:PlE st.env kE pE E:=by repeat (first | exact PlE.nil | apply PlE.lit rfl | apply PlE.own rfl | apply PlE.ptr rfl | apply PlE.sl rfl | apply PlE.agg rfl | apply PlE.tup rfl | apply PlE.fn rfl | apply PlE.put))(hS:PlS st.sto kS cS pS S:=by repeat (first | exact PlS.nil | apply PlS.keep rfl | (apply PlS.cel rfl;repeat (first | exact Rw.nil | apply Rw.hit | apply Rw.miss)) | apply PlS.put)):Sm (Y.bind K) r->DWp P nt n0 (.seq x y) Q st:=ct (λb=>⟨E b,S b,n⟩) hx hy
theorem cU{β ρ:Type}{x y:Code}{Y:Option (β ⊕ ρ)}{K:β->Option ρ}{r:ρ}(kE:List Nat)(pE:List (Nat×(β->DV)))(kS:List Nat)(cS:List (Nat×List (Nat×(β->DV))))(pS:List (Nat×(β->Ob)))(n:Nat){E:β->Env}{S:β->Sto}
  (hx:∀ z,(∀ r',z = .inr r'->r'=r)->Sm Y z->DWp P nt n0 x (QbQ (λs=>∃ b,z = .inl b/\ZJ n0 s ⟨E b,S b,n⟩) Q) st)(hy:∀ b,Sm (K b) r->DWp P nt n0 y Q ⟨E b,S b,n⟩)
  (hE:PlE st.env kE pE E:=by repeat (first | exact PlE.nil | apply PlE.lit rfl | apply PlE.own rfl | apply PlE.ptr rfl | apply PlE.sl rfl | apply PlE.agg rfl | apply PlE.tup rfl | apply PlE.fn rfl | apply PlE.put))(hS:PlS st.sto kS cS pS S:=by repeat (first | exact PlS.nil | apply PlS.keep rfl | (apply PlS.cel rfl;repeat (first | exact Rw.nil | apply Rw.hit | apply Rw.miss)) | apply PlS.put)):Sm (bndR Y K) r->DWp P nt n0 (.seq x y) Q st:=cu (λb=>⟨E b,S b,n⟩) hx hy
theorem lP{β σ:Type}{body:Code}{f:σ->Option (LS σ β)}{s0:σ}{z:β}(kE:List Nat)(pE:List (Nat×(σ->DV)))(kS:List Nat)(cS:List (Nat×List (Nat×(σ->DV))))(pS:List (Nat×(σ->Ob)))(n:Nat){E:σ->Env}{S:σ->Sto}
  (hs:∀ s y,(∀ b,y = .out b->b=z)->Sm (f s) y->DWp P nt n0 body (QbQ (λs'=>∃ x',y = .go x'/\ZJ n0 s' ⟨E x',S x',n⟩) Q) ⟨E s,S s,n⟩)
  (hE:PlE st.env kE pE E:=by repeat (first | exact PlE.nil | apply PlE.lit rfl | apply PlE.own rfl | apply PlE.ptr rfl | apply PlE.sl rfl | apply PlE.agg rfl | apply PlE.tup rfl | apply PlE.fn rfl | apply PlE.put))(hS:PlS st.sto kS cS pS S:=by repeat (first | exact PlS.nil | apply PlS.keep rfl | (apply PlS.cel rfl;repeat (first | exact Rw.nil | apply Rw.hit | apply Rw.miss)) | apply PlS.put))(h0:ZJ n0 st ⟨E s0,S s0,n⟩:=by exact wkJ []):Sm (Qi f s0) z->DWp P nt n0 (.loop body) Q st:=lp (λs=>⟨E s,S s,n⟩) h0 hs
end
instance i2:TyI Tryz.prog 2 ⟨.int .i64,1,8,[.lit (Value.int IntKind.i64 0)]⟩:=⟨⟨Tryz.underlying2,Ok,⟨Value.int IntKind.i64 0,Ok,Ok,Ok,rfl⟩⟩⟩
instance i3:TyI Tryz.prog 3 ⟨.int .i64,1,8,[.lit (Value.int IntKind.i64 0)]⟩:=⟨⟨Tryz.underlying3,Ok,⟨Value.int IntKind.i64 0,Ok,Ok,Ok,rfl⟩⟩⟩
instance i4:TyI Tryz.prog 4 ⟨.bool,1,1,[.lit (Value.bool false)]⟩:=⟨⟨Tryz.underlying4,Ok,⟨Value.bool false,Ok,Ok,Ok,rfl⟩⟩⟩
instance i5:TyI Tryz.prog 5 ⟨.int .u8,1,1,[.lit (Value.int IntKind.u8 0)]⟩:=⟨⟨Tryz.underlying5,Ok,⟨Value.int IntKind.u8 0,Ok,Ok,Ok,rfl⟩⟩⟩
instance i6:TyI Tryz.prog 6 ⟨.int .u8,1,1,[.lit (Value.int IntKind.u8 0)]⟩:=⟨⟨Tryz.underlying6,Ok,⟨Value.int IntKind.u8 0,Ok,Ok,Ok,rfl⟩⟩⟩
instance i7:TyI Tryz.prog 7 ⟨.struct [(0,1),(1,1),(2,1),(3,1)],4,24,[.lit (Value.int IntKind.i64 0),.lit (Value.int IntKind.i64 0),.lit (Value.bool false),.lit (Value.int IntKind.u8 0)]⟩:=⟨⟨⟨_,Tryz.underlying7,Ok,Ok⟩,Ok,⟨Value.agg #[Value.int IntKind.i64 0,Value.int IntKind.i64 0,Value.bool false,Value.int IntKind.u8 0],Ok,Ok,Ok,⟨_,rfl⟩⟩⟩⟩
instance i8:TyI Tryz.prog 8 ⟨.struct [(0,1),(1,1),(2,1),(3,1)],4,24,[.lit (Value.int IntKind.i64 0),.lit (Value.int IntKind.i64 0),.lit (Value.bool false),.lit (Value.int IntKind.u8 0)]⟩:=⟨⟨⟨_,Tryz.underlying8,Ok,Ok⟩,Ok,⟨Value.agg #[Value.int IntKind.i64 0,Value.int IntKind.i64 0,Value.bool false,Value.int IntKind.u8 0],Ok,Ok,Ok,⟨_,rfl⟩⟩⟩⟩
instance i9:TyI Tryz.prog 9 ⟨.str,1,16,[.lit (Value.string { data:=#[] })]⟩:=⟨⟨Tryz.underlying9,Ok,⟨Value.string { data:=#[] },Ok,Ok,Ok,rfl⟩⟩⟩
instance i10:TyI Tryz.prog 10 ⟨.str,1,16,[.lit (Value.string { data:=#[] })]⟩:=⟨⟨Tryz.underlying10,Ok,⟨Value.string { data:=#[] },Ok,Ok,Ok,rfl⟩⟩⟩
instance i11:TyI Tryz.prog 11 ⟨.str,1,16,[.lit (Value.string { data:=#[] })]⟩:=⟨⟨Tryz.underlying11,Ok,⟨Value.string { data:=#[] },Ok,Ok,Ok,rfl⟩⟩⟩
instance i12:TyI Tryz.prog 12 ⟨.int .u64,1,8,[.lit (Value.int IntKind.u64 0)]⟩:=⟨⟨Tryz.underlying12,Ok,⟨Value.int IntKind.u64 0,Ok,Ok,Ok,rfl⟩⟩⟩
instance i13:TyI Tryz.prog 13 ⟨.struct [(0,1),(1,1)],2,24,[.lit (Value.string { data:=#[] }),.lit (Value.int IntKind.u64 0)]⟩:=⟨⟨⟨_,Tryz.underlying13,Ok,Ok⟩,Ok,⟨Value.agg #[Value.string { data:=#[] },Value.int IntKind.u64 0],Ok,Ok,Ok,⟨_,rfl⟩⟩⟩⟩
instance i14:TyI Tryz.prog 14 ⟨.struct [(0,1),(1,1)],2,24,[.lit (Value.string { data:=#[] }),.lit (Value.int IntKind.u64 0)]⟩:=⟨⟨⟨_,Tryz.underlying14,Ok,Ok⟩,Ok,⟨Value.agg #[Value.string { data:=#[] },Value.int IntKind.u64 0],Ok,Ok,Ok,⟨_,rfl⟩⟩⟩⟩
instance i15:TyI Tryz.prog 15 ⟨.ptr 286,1,8,[.lit (Value.pointer none)]⟩:=⟨⟨Tryz.underlying15,Ok,⟨Value.pointer none,Ok,Ok,Ok,rfl⟩⟩⟩
instance i16:TyI Tryz.prog 16 ⟨.ptr 289,1,8,[.lit (Value.pointer none)]⟩:=⟨⟨Tryz.underlying16,Ok,⟨Value.pointer none,Ok,Ok,Ok,rfl⟩⟩⟩
instance i17:TyI Tryz.prog 17 ⟨.ptr 297,1,8,[.lit (Value.pointer none)]⟩:=⟨⟨Tryz.underlying17,Ok,⟨Value.pointer none,Ok,Ok,Ok,rfl⟩⟩⟩
instance i18:TyI Tryz.prog 18 ⟨.struct [(0,1)],1,8,[.lit (Value.pointer none)]⟩:=⟨⟨⟨_,Tryz.underlying18,Ok,Ok⟩,Ok,⟨Value.agg #[Value.pointer none],Ok,Ok,Ok,⟨_,rfl⟩⟩⟩⟩
instance i19:TyI Tryz.prog 19 ⟨.struct [(0,1)],1,8,[.lit (Value.pointer none)]⟩:=⟨⟨⟨_,Tryz.underlying19,Ok,Ok⟩,Ok,⟨Value.agg #[Value.pointer none],Ok,Ok,Ok,⟨_,rfl⟩⟩⟩⟩
instance i21:TyI Tryz.prog 21 ⟨.int .i32,1,4,[.lit (Value.int IntKind.i32 0)]⟩:=⟨⟨Tryz.underlying21,Ok,⟨Value.int IntKind.i32 0,Ok,Ok,Ok,rfl⟩⟩⟩
instance i22:TyI Tryz.prog 22 ⟨.slice 3,1,24,[.lit (Value.slice none 0 0)]⟩:=⟨⟨Tryz.underlying22,Ok,⟨Value.slice none 0 0,Ok,Ok,Ok,rfl⟩⟩⟩
instance i23:TyI Tryz.prog 23 ⟨.slice 131,1,24,[.lit (Value.slice none 0 0)]⟩:=⟨⟨Tryz.underlying23,Ok,⟨Value.slice none 0 0,Ok,Ok,Ok,rfl⟩⟩⟩
instance i24:TyI Tryz.prog 24 ⟨.struct [(0,1),(1,1),(2,1)],3,48,[.lit (Value.string { data:=#[] }),.lit (Value.slice none 0 0),.lit (Value.int IntKind.i64 0)]⟩:=⟨⟨⟨_,Tryz.underlying24,Ok,Ok⟩,Ok,⟨Value.agg #[Value.string { data:=#[] },Value.slice none 0 0,Value.int IntKind.i64 0],Ok,Ok,Ok,⟨_,rfl⟩⟩⟩⟩
instance i25:TyI Tryz.prog 25 ⟨.struct [(0,1),(1,1),(2,1)],3,48,[.lit (Value.string { data:=#[] }),.lit (Value.slice none 0 0),.lit (Value.int IntKind.i64 0)]⟩:=⟨⟨⟨_,Tryz.underlying25,Ok,Ok⟩,Ok,⟨Value.agg #[Value.string { data:=#[] },Value.slice none 0 0,Value.int IntKind.i64 0],Ok,Ok,Ok,⟨_,rfl⟩⟩⟩⟩
instance i26:TyI Tryz.prog 26 ⟨.slice 62,1,24,[.lit (Value.slice none 0 0)]⟩:=⟨⟨Tryz.underlying26,Ok,⟨Value.slice none 0 0,Ok,Ok,Ok,rfl⟩⟩⟩
instance i27:TyI Tryz.prog 27 ⟨.slice 53,1,24,[.lit (Value.slice none 0 0)]⟩:=⟨⟨Tryz.underlying27,Ok,⟨Value.slice none 0 0,Ok,Ok,Ok,rfl⟩⟩⟩
instance i28:TyI Tryz.prog 28 ⟨.struct [(0,1),(1,1),(2,1)],3,56,[.lit (Value.int IntKind.i64 0),.lit (Value.slice none 0 0),.lit (Value.slice none 0 0)]⟩:=⟨⟨⟨_,Tryz.underlying28,Ok,Ok⟩,Ok,⟨Value.agg #[Value.int IntKind.i64 0,Value.slice none 0 0,Value.slice none 0 0],Ok,Ok,Ok,⟨_,rfl⟩⟩⟩⟩
instance i29:TyI Tryz.prog 29 ⟨.struct [(0,1),(1,1),(2,1)],3,56,[.lit (Value.int IntKind.i64 0),.lit (Value.slice none 0 0),.lit (Value.slice none 0 0)]⟩:=⟨⟨⟨_,Tryz.underlying29,Ok,Ok⟩,Ok,⟨Value.agg #[Value.int IntKind.i64 0,Value.slice none 0 0,Value.slice none 0 0],Ok,Ok,Ok,⟨_,rfl⟩⟩⟩⟩
instance i30:TyI Tryz.prog 30 ⟨.slice 46,1,24,[.lit (Value.slice none 0 0)]⟩:=⟨⟨Tryz.underlying30,Ok,⟨Value.slice none 0 0,Ok,Ok,Ok,rfl⟩⟩⟩
instance i31:TyI Tryz.prog 31 ⟨.slice 84,1,24,[.lit (Value.slice none 0 0)]⟩:=⟨⟨Tryz.underlying31,Ok,⟨Value.slice none 0 0,Ok,Ok,Ok,rfl⟩⟩⟩
instance i32:TyI Tryz.prog 32 ⟨.slice 4,1,24,[.lit (Value.slice none 0 0)]⟩:=⟨⟨Tryz.underlying32,Ok,⟨Value.slice none 0 0,Ok,Ok,Ok,rfl⟩⟩⟩
instance i33:TyI Tryz.prog 33 ⟨.struct [(0,1),(1,1)],2,48,[.lit (Value.slice none 0 0),.lit (Value.slice none 0 0)]⟩:=⟨⟨⟨_,Tryz.underlying33,Ok,Ok⟩,Ok,⟨Value.agg #[Value.slice none 0 0,Value.slice none 0 0],Ok,Ok,Ok,⟨_,rfl⟩⟩⟩⟩
instance i34:TyI Tryz.prog 34 ⟨.struct [(0,1),(1,1)],2,48,[.lit (Value.slice none 0 0),.lit (Value.slice none 0 0)]⟩:=⟨⟨⟨_,Tryz.underlying34,Ok,Ok⟩,Ok,⟨Value.agg #[Value.slice none 0 0,Value.slice none 0 0],Ok,Ok,Ok,⟨_,rfl⟩⟩⟩⟩
instance i35:TyI Tryz.prog 35 ⟨.struct [(0,1),(1,1),(2,1),(3,1),(4,1),(5,1),(6,1),(7,1),(8,1)],9,72,List.replicate 9 (.lit (Value.int IntKind.i64 0))⟩:=⟨⟨⟨_,Tryz.underlying35,Ok,Ok⟩,Ok,⟨Value.agg #[Value.int IntKind.i64 0,Value.int IntKind.i64 0,Value.int IntKind.i64 0,Value.int IntKind.i64 0,Value.int IntKind.i64 0,Value.int IntKind.i64 0,Value.int IntKind.i64 0,Value.int IntKind.i64 0,Value.int IntKind.i64 0],Ok,Ok,Ok,⟨_,rfl⟩⟩⟩⟩
instance i36:TyI Tryz.prog 36 ⟨.struct [(0,1),(1,1),(2,1),(3,1),(4,1),(5,1),(6,1),(7,1),(8,1)],9,72,List.replicate 9 (.lit (Value.int IntKind.i64 0))⟩:=⟨⟨⟨_,Tryz.underlying36,Ok,Ok⟩,Ok,⟨Value.agg #[Value.int IntKind.i64 0,Value.int IntKind.i64 0,Value.int IntKind.i64 0,Value.int IntKind.i64 0,Value.int IntKind.i64 0,Value.int IntKind.i64 0,Value.int IntKind.i64 0,Value.int IntKind.i64 0,Value.int IntKind.i64 0],Ok,Ok,Ok,⟨_,rfl⟩⟩⟩⟩
instance i37:TyI Tryz.prog 37 ⟨.struct [(0,3),(3,3),(6,1),(7,1),(8,1),(9,2),(11,1),(12,9),(21,1)],22,296,[.lit (Value.string { data:=#[] }),.lit (Value.slice none 0 0),.lit (Value.int IntKind.i64 0),.lit (Value.int IntKind.i64 0),.lit (Value.slice none 0 0),.lit (Value.slice none 0 0),.lit (Value.slice none 0 0),.lit (Value.int IntKind.i64 0),.lit (Value.slice none 0 0),.lit (Value.slice none 0 0),.lit (Value.slice none 0 0),.lit (Value.int IntKind.i64 0),.lit (Value.int IntKind.i64 0),.lit (Value.int IntKind.i64 0),.lit (Value.int IntKind.i64 0),.lit (Value.int IntKind.i64 0),.lit (Value.int IntKind.i64 0),.lit (Value.int IntKind.i64 0),.lit (Value.int IntKind.i64 0),.lit (Value.int IntKind.i64 0),.lit (Value.int IntKind.i64 0),.lit (Value.bool false)]⟩:=⟨⟨⟨_,Tryz.underlying37,Ok,Ok⟩,Ok,⟨Value.agg #[Value.string { data:=#[] },Value.slice none 0 0,Value.int IntKind.i64 0,Value.int IntKind.i64 0,Value.slice none 0 0,Value.slice none 0 0,Value.slice none 0 0,Value.int IntKind.i64 0,Value.slice none 0 0,Value.slice none 0 0,Value.slice none 0 0,Value.int IntKind.i64 0,Value.int IntKind.i64 0,Value.int IntKind.i64 0,Value.int IntKind.i64 0,Value.int IntKind.i64 0,Value.int IntKind.i64 0,Value.int IntKind.i64 0,Value.int IntKind.i64 0,Value.int IntKind.i64 0,Value.int IntKind.i64 0,Value.bool false],Ok,Ok,Ok,⟨_,rfl⟩⟩⟩⟩
instance i38:TyI Tryz.prog 38 ⟨.struct [(0,3),(3,3),(6,1),(7,1),(8,1),(9,2),(11,1),(12,9),(21,1)],22,296,[.lit (Value.string { data:=#[] }),.lit (Value.slice none 0 0),.lit (Value.int IntKind.i64 0),.lit (Value.int IntKind.i64 0),.lit (Value.slice none 0 0),.lit (Value.slice none 0 0),.lit (Value.slice none 0 0),.lit (Value.int IntKind.i64 0),.lit (Value.slice none 0 0),.lit (Value.slice none 0 0),.lit (Value.slice none 0 0),.lit (Value.int IntKind.i64 0),.lit (Value.int IntKind.i64 0),.lit (Value.int IntKind.i64 0),.lit (Value.int IntKind.i64 0),.lit (Value.int IntKind.i64 0),.lit (Value.int IntKind.i64 0),.lit (Value.int IntKind.i64 0),.lit (Value.int IntKind.i64 0),.lit (Value.int IntKind.i64 0),.lit (Value.int IntKind.i64 0),.lit (Value.bool false)]⟩:=⟨⟨⟨_,Tryz.underlying38,Ok,Ok⟩,Ok,⟨Value.agg #[Value.string { data:=#[] },Value.slice none 0 0,Value.int IntKind.i64 0,Value.int IntKind.i64 0,Value.slice none 0 0,Value.slice none 0 0,Value.slice none 0 0,Value.int IntKind.i64 0,Value.slice none 0 0,Value.slice none 0 0,Value.slice none 0 0,Value.int IntKind.i64 0,Value.int IntKind.i64 0,Value.int IntKind.i64 0,Value.int IntKind.i64 0,Value.int IntKind.i64 0,Value.int IntKind.i64 0,Value.int IntKind.i64 0,Value.int IntKind.i64 0,Value.int IntKind.i64 0,Value.int IntKind.i64 0,Value.bool false],Ok,Ok,Ok,⟨_,rfl⟩⟩⟩⟩
instance i39:TyI Tryz.prog 39 ⟨.slice 212,1,24,[.lit (Value.slice none 0 0)]⟩:=⟨⟨Tryz.underlying39,Ok,⟨Value.slice none 0 0,Ok,Ok,Ok,rfl⟩⟩⟩
instance i40:TyI Tryz.prog 40 ⟨.struct [(0,1),(1,1),(2,1)],3,72,[.lit (Value.slice none 0 0),.lit (Value.slice none 0 0),.lit (Value.slice none 0 0)]⟩:=⟨⟨⟨_,Tryz.underlying40,Ok,Ok⟩,Ok,⟨Value.agg #[Value.slice none 0 0,Value.slice none 0 0,Value.slice none 0 0],Ok,Ok,Ok,⟨_,rfl⟩⟩⟩⟩
instance i41:TyI Tryz.prog 41 ⟨.struct [(0,1),(1,1),(2,1)],3,72,[.lit (Value.slice none 0 0),.lit (Value.slice none 0 0),.lit (Value.slice none 0 0)]⟩:=⟨⟨⟨_,Tryz.underlying41,Ok,Ok⟩,Ok,⟨Value.agg #[Value.slice none 0 0,Value.slice none 0 0,Value.slice none 0 0],Ok,Ok,Ok,⟨_,rfl⟩⟩⟩⟩
instance i44:TyI Tryz.prog 44 ⟨.ptr 99,1,8,[.lit (Value.pointer none)]⟩:=⟨⟨Tryz.underlying44,Ok,⟨Value.pointer none,Ok,Ok,Ok,rfl⟩⟩⟩
instance i46:TyI Tryz.prog 46 ⟨.slice 49,1,24,[.lit (Value.slice none 0 0)]⟩:=⟨⟨Tryz.underlying46,Ok,⟨Value.slice none 0 0,Ok,Ok,Ok,rfl⟩⟩⟩
instance i48:TyI Tryz.prog 48 ⟨.struct [(0,1),(1,1),(2,1),(3,1),(4,1)],5,40,[.lit (Value.int IntKind.i64 0),.lit (Value.int IntKind.i64 0),.lit (Value.int IntKind.i64 0),.lit (Value.int IntKind.i64 0),.lit (Value.int IntKind.i64 0)]⟩:=⟨⟨⟨_,Tryz.underlying48,Ok,Ok⟩,Ok,⟨Value.agg #[Value.int IntKind.i64 0,Value.int IntKind.i64 0,Value.int IntKind.i64 0,Value.int IntKind.i64 0,Value.int IntKind.i64 0],Ok,Ok,Ok,⟨_,rfl⟩⟩⟩⟩
instance i49:TyI Tryz.prog 49 ⟨.struct [(0,1),(1,1),(2,1),(3,1),(4,1)],5,40,[.lit (Value.int IntKind.i64 0),.lit (Value.int IntKind.i64 0),.lit (Value.int IntKind.i64 0),.lit (Value.int IntKind.i64 0),.lit (Value.int IntKind.i64 0)]⟩:=⟨⟨⟨_,Tryz.underlying49,Ok,Ok⟩,Ok,⟨Value.agg #[Value.int IntKind.i64 0,Value.int IntKind.i64 0,Value.int IntKind.i64 0,Value.int IntKind.i64 0,Value.int IntKind.i64 0],Ok,Ok,Ok,⟨_,rfl⟩⟩⟩⟩
instance i52:TyI Tryz.prog 52 ⟨.struct [(0,1),(1,1),(2,1)],3,24,[.lit (Value.int IntKind.i64 0),.lit (Value.int IntKind.i64 0),.lit (Value.int IntKind.i64 0)]⟩:=⟨⟨⟨_,Tryz.underlying52,Ok,Ok⟩,Ok,⟨Value.agg #[Value.int IntKind.i64 0,Value.int IntKind.i64 0,Value.int IntKind.i64 0],Ok,Ok,Ok,⟨_,rfl⟩⟩⟩⟩
instance i53:TyI Tryz.prog 53 ⟨.struct [(0,1),(1,1),(2,1)],3,24,[.lit (Value.int IntKind.i64 0),.lit (Value.int IntKind.i64 0),.lit (Value.int IntKind.i64 0)]⟩:=⟨⟨⟨_,Tryz.underlying53,Ok,Ok⟩,Ok,⟨Value.agg #[Value.int IntKind.i64 0,Value.int IntKind.i64 0,Value.int IntKind.i64 0],Ok,Ok,Ok,⟨_,rfl⟩⟩⟩⟩
instance i57:TyI Tryz.prog 57 ⟨.int .i64,1,8,[.lit (Value.int IntKind.i64 0)]⟩:=⟨⟨Tryz.underlying57,Ok,⟨Value.int IntKind.i64 0,Ok,Ok,Ok,rfl⟩⟩⟩
instance i62:TyI Tryz.prog 62 ⟨.int .u64,1,8,[.lit (Value.int IntKind.u64 0)]⟩:=⟨⟨Tryz.underlying62,Ok,⟨Value.int IntKind.u64 0,Ok,Ok,Ok,rfl⟩⟩⟩
instance i69:TyI Tryz.prog 69 ⟨.slice 82,1,24,[.lit (Value.slice none 0 0)]⟩:=⟨⟨Tryz.underlying69,Ok,⟨Value.slice none 0 0,Ok,Ok,Ok,rfl⟩⟩⟩
instance i75:TyI Tryz.prog 75 ⟨.slice 29,1,24,[.lit (Value.slice none 0 0)]⟩:=⟨⟨Tryz.underlying75,Ok,⟨Value.slice none 0 0,Ok,Ok,Ok,rfl⟩⟩⟩
instance i76:TyI Tryz.prog 76 ⟨.slice 31,1,24,[.lit (Value.slice none 0 0)]⟩:=⟨⟨Tryz.underlying76,Ok,⟨Value.slice none 0 0,Ok,Ok,Ok,rfl⟩⟩⟩
instance i81:TyI Tryz.prog 81 ⟨.struct [(0,1),(1,1)],2,16,[.lit (Value.int IntKind.i64 0),.lit (Value.int IntKind.i64 0)]⟩:=⟨⟨⟨_,Tryz.underlying81,Ok,Ok⟩,Ok,⟨Value.agg #[Value.int IntKind.i64 0,Value.int IntKind.i64 0],Ok,Ok,Ok,⟨_,rfl⟩⟩⟩⟩
instance i82:TyI Tryz.prog 82 ⟨.struct [(0,1),(1,1)],2,16,[.lit (Value.int IntKind.i64 0),.lit (Value.int IntKind.i64 0)]⟩:=⟨⟨⟨_,Tryz.underlying82,Ok,Ok⟩,Ok,⟨Value.agg #[Value.int IntKind.i64 0,Value.int IntKind.i64 0],Ok,Ok,Ok,⟨_,rfl⟩⟩⟩⟩
instance i83:TyI Tryz.prog 83 ⟨.struct [(0,1),(1,1),(2,1)],3,40,[.lit (Value.int IntKind.i64 0),.lit (Value.int IntKind.i64 0),.lit (Value.slice none 0 0)]⟩:=⟨⟨⟨_,Tryz.underlying83,Ok,Ok⟩,Ok,⟨Value.agg #[Value.int IntKind.i64 0,Value.int IntKind.i64 0,Value.slice none 0 0],Ok,Ok,Ok,⟨_,rfl⟩⟩⟩⟩
instance i84:TyI Tryz.prog 84 ⟨.struct [(0,1),(1,1),(2,1)],3,40,[.lit (Value.int IntKind.i64 0),.lit (Value.int IntKind.i64 0),.lit (Value.slice none 0 0)]⟩:=⟨⟨⟨_,Tryz.underlying84,Ok,Ok⟩,Ok,⟨Value.agg #[Value.int IntKind.i64 0,Value.int IntKind.i64 0,Value.slice none 0 0],Ok,Ok,Ok,⟨_,rfl⟩⟩⟩⟩
instance i88:TyI Tryz.prog 88 ⟨.struct [(0,1),(1,1),(2,1)],3,24,[.lit (Value.int IntKind.i64 0),.lit (Value.bool false),.lit (Value.int IntKind.i64 0)]⟩:=⟨⟨⟨_,Tryz.underlying88,Ok,Ok⟩,Ok,⟨Value.agg #[Value.int IntKind.i64 0,Value.bool false,Value.int IntKind.i64 0],Ok,Ok,Ok,⟨_,rfl⟩⟩⟩⟩
instance i89:TyI Tryz.prog 89 ⟨.struct [(0,1),(1,1),(2,1)],3,24,[.lit (Value.int IntKind.i64 0),.lit (Value.bool false),.lit (Value.int IntKind.i64 0)]⟩:=⟨⟨⟨_,Tryz.underlying89,Ok,Ok⟩,Ok,⟨Value.agg #[Value.int IntKind.i64 0,Value.bool false,Value.int IntKind.i64 0],Ok,Ok,Ok,⟨_,rfl⟩⟩⟩⟩
instance i92:TyI Tryz.prog 92 ⟨.struct [(0,1),(1,1),(2,1),(3,1)],4,32,[.lit (Value.int IntKind.i64 0),.lit (Value.int IntKind.i64 0),.lit (Value.int IntKind.i64 0),.lit (Value.int IntKind.i64 0)]⟩:=⟨⟨⟨_,Tryz.underlying92,Ok,Ok⟩,Ok,⟨Value.agg #[Value.int IntKind.i64 0,Value.int IntKind.i64 0,Value.int IntKind.i64 0,Value.int IntKind.i64 0],Ok,Ok,Ok,⟨_,rfl⟩⟩⟩⟩
instance i93:TyI Tryz.prog 93 ⟨.struct [(0,1),(1,1),(2,1),(3,1)],4,32,[.lit (Value.int IntKind.i64 0),.lit (Value.int IntKind.i64 0),.lit (Value.int IntKind.i64 0),.lit (Value.int IntKind.i64 0)]⟩:=⟨⟨⟨_,Tryz.underlying93,Ok,Ok⟩,Ok,⟨Value.agg #[Value.int IntKind.i64 0,Value.int IntKind.i64 0,Value.int IntKind.i64 0,Value.int IntKind.i64 0],Ok,Ok,Ok,⟨_,rfl⟩⟩⟩⟩
instance i98:TyI Tryz.prog 98 ⟨.struct [(0,1),(1,1)],2,32,[.lit (Value.slice none 0 0),.lit (Value.int IntKind.i64 0)]⟩:=⟨⟨⟨_,Tryz.underlying98,Ok,Ok⟩,Ok,⟨Value.agg #[Value.slice none 0 0,Value.int IntKind.i64 0],Ok,Ok,Ok,⟨_,rfl⟩⟩⟩⟩
instance i99:TyI Tryz.prog 99 ⟨.struct [(0,1),(1,1)],2,32,[.lit (Value.slice none 0 0),.lit (Value.int IntKind.i64 0)]⟩:=⟨⟨⟨_,Tryz.underlying99,Ok,Ok⟩,Ok,⟨Value.agg #[Value.slice none 0 0,Value.int IntKind.i64 0],Ok,Ok,Ok,⟨_,rfl⟩⟩⟩⟩
instance i105:TyI Tryz.prog 105 ⟨.int .u64,1,8,[.lit (Value.int IntKind.u64 0)]⟩:=⟨⟨Tryz.underlying105,Ok,⟨Value.int IntKind.u64 0,Ok,Ok,Ok,rfl⟩⟩⟩
instance i129:TyI Tryz.prog 129 ⟨.flt .f64,1,8,[.lit (Value.float FloatKind.f64 0)]⟩:=⟨⟨Tryz.underlying129,Ok,⟨Value.float FloatKind.f64 0,Ok,Ok,Ok,rfl⟩⟩⟩
instance i130:TyI Tryz.prog 130 ⟨.struct [(0,1),(1,1),(2,1),(3,1)],4,32,[.lit (Value.float FloatKind.f64 0),.lit (Value.int IntKind.i64 0),.lit (Value.int IntKind.i64 0),.lit (Value.int IntKind.i64 0)]⟩:=⟨⟨⟨_,Tryz.underlying130,Ok,Ok⟩,Ok,⟨Value.agg #[Value.float FloatKind.f64 0,Value.int IntKind.i64 0,Value.int IntKind.i64 0,Value.int IntKind.i64 0],Ok,Ok,Ok,⟨_,rfl⟩⟩⟩⟩
instance J5:TyI Tryz.prog 131 ⟨.struct [(0,1),(1,1),(2,1),(3,1)],4,32,[.lit (Value.float FloatKind.f64 0),.lit (Value.int IntKind.i64 0),.lit (Value.int IntKind.i64 0),.lit (Value.int IntKind.i64 0)]⟩:=⟨⟨⟨_,Tryz.underlying131,Ok,Ok⟩,Ok,⟨Value.agg #[Value.float FloatKind.f64 0,Value.int IntKind.i64 0,Value.int IntKind.i64 0,Value.int IntKind.i64 0],Ok,Ok,Ok,⟨_,rfl⟩⟩⟩⟩
instance i145:TyI Tryz.prog 145 ⟨.struct [(0,1),(1,1),(2,1),(3,1)],4,32,[.lit (Value.int IntKind.i64 0),.lit (Value.int IntKind.i64 0),.lit (Value.int IntKind.i64 0),.lit (Value.int IntKind.i64 0)]⟩:=⟨⟨⟨_,Tryz.underlying145,Ok,Ok⟩,Ok,⟨Value.agg #[Value.int IntKind.i64 0,Value.int IntKind.i64 0,Value.int IntKind.i64 0,Value.int IntKind.i64 0],Ok,Ok,Ok,⟨_,rfl⟩⟩⟩⟩
instance i146:TyI Tryz.prog 146 ⟨.struct [(0,1),(1,1),(2,1),(3,1)],4,32,[.lit (Value.int IntKind.i64 0),.lit (Value.int IntKind.i64 0),.lit (Value.int IntKind.i64 0),.lit (Value.int IntKind.i64 0)]⟩:=⟨⟨⟨_,Tryz.underlying146,Ok,Ok⟩,Ok,⟨Value.agg #[Value.int IntKind.i64 0,Value.int IntKind.i64 0,Value.int IntKind.i64 0,Value.int IntKind.i64 0],Ok,Ok,Ok,⟨_,rfl⟩⟩⟩⟩
instance i148:TyI Tryz.prog 148 ⟨.struct [(0,1),(1,1)],2,16,[.lit (Value.int IntKind.i64 0),.lit (Value.int IntKind.u64 0)]⟩:=⟨⟨⟨_,Tryz.underlying148,Ok,Ok⟩,Ok,⟨Value.agg #[Value.int IntKind.i64 0,Value.int IntKind.u64 0],Ok,Ok,Ok,⟨_,rfl⟩⟩⟩⟩
instance i149:TyI Tryz.prog 149 ⟨.struct [(0,1),(1,1)],2,16,[.lit (Value.int IntKind.i64 0),.lit (Value.int IntKind.u64 0)]⟩:=⟨⟨⟨_,Tryz.underlying149,Ok,Ok⟩,Ok,⟨Value.agg #[Value.int IntKind.i64 0,Value.int IntKind.u64 0],Ok,Ok,Ok,⟨_,rfl⟩⟩⟩⟩
instance i156:TyI Tryz.prog 156 ⟨.slice 9,1,24,[.lit (Value.slice none 0 0)]⟩:=⟨⟨Tryz.underlying156,Ok,⟨Value.slice none 0 0,Ok,Ok,Ok,rfl⟩⟩⟩
instance i159:TyI Tryz.prog 159 ⟨.array 64 5,64,64,List.replicate 64 (.lit (Value.int IntKind.u8 0))⟩:=⟨⟨Tryz.underlying159,Ok,⟨Value.agg #[Value.int IntKind.u8 0,Value.int IntKind.u8 0,Value.int IntKind.u8 0,Value.int IntKind.u8 0,Value.int IntKind.u8 0,Value.int IntKind.u8 0,Value.int IntKind.u8 0,Value.int IntKind.u8 0,Value.int IntKind.u8 0,Value.int IntKind.u8 0,Value.int IntKind.u8 0,Value.int IntKind.u8 0,Value.int IntKind.u8 0,Value.int IntKind.u8 0,Value.int IntKind.u8 0,Value.int IntKind.u8 0,Value.int IntKind.u8 0,Value.int IntKind.u8 0,Value.int IntKind.u8 0,Value.int IntKind.u8 0,Value.int IntKind.u8 0,Value.int IntKind.u8 0,Value.int IntKind.u8 0,Value.int IntKind.u8 0,Value.int IntKind.u8 0,Value.int IntKind.u8 0,Value.int IntKind.u8 0,Value.int IntKind.u8 0,Value.int IntKind.u8 0,Value.int IntKind.u8 0,Value.int IntKind.u8 0,Value.int IntKind.u8 0,Value.int IntKind.u8 0,Value.int IntKind.u8 0,Value.int IntKind.u8 0,Value.int IntKind.u8 0,Value.int IntKind.u8 0,Value.int IntKind.u8 0,Value.int IntKind.u8 0,Value.int IntKind.u8 0,Value.int IntKind.u8 0,Value.int IntKind.u8 0,Value.int IntKind.u8 0,Value.int IntKind.u8 0,Value.int IntKind.u8 0,Value.int IntKind.u8 0,Value.int IntKind.u8 0,Value.int IntKind.u8 0,Value.int IntKind.u8 0,Value.int IntKind.u8 0,Value.int IntKind.u8 0,Value.int IntKind.u8 0,Value.int IntKind.u8 0,Value.int IntKind.u8 0,Value.int IntKind.u8 0,Value.int IntKind.u8 0,Value.int IntKind.u8 0,Value.int IntKind.u8 0,Value.int IntKind.u8 0,Value.int IntKind.u8 0,Value.int IntKind.u8 0,Value.int IntKind.u8 0,Value.int IntKind.u8 0,Value.int IntKind.u8 0],Ok,Ok,Ok,⟨_,rfl⟩⟩⟩⟩
instance i166:TyI Tryz.prog 166 ⟨.ptr 168,1,8,[.lit (Value.pointer none)]⟩:=⟨⟨Tryz.underlying166,Ok,⟨Value.pointer none,Ok,Ok,Ok,rfl⟩⟩⟩
instance i167:TyI Tryz.prog 167 ⟨.struct [(0,3),(3,1),(4,5),(9,1),(10,1)],11,152,[.lit (Value.int IntKind.i64 0),.lit (Value.slice none 0 0),.lit (Value.slice none 0 0),.lit (Value.slice none 0 0),.lit (Value.int IntKind.i64 0),.lit (Value.int IntKind.i64 0),.lit (Value.int IntKind.i64 0),.lit (Value.int IntKind.i64 0),.lit (Value.int IntKind.i64 0),.lit (Value.slice none 0 0),.lit (Value.int IntKind.i64 0)]⟩:=⟨⟨⟨_,Tryz.underlying167,Ok,Ok⟩,Ok,⟨Value.agg #[Value.int IntKind.i64 0,Value.slice none 0 0,Value.slice none 0 0,Value.slice none 0 0,Value.int IntKind.i64 0,Value.int IntKind.i64 0,Value.int IntKind.i64 0,Value.int IntKind.i64 0,Value.int IntKind.i64 0,Value.slice none 0 0,Value.int IntKind.i64 0],Ok,Ok,Ok,⟨_,rfl⟩⟩⟩⟩
instance i168:TyI Tryz.prog 168 ⟨.struct [(0,3),(3,1),(4,5),(9,1),(10,1)],11,152,[.lit (Value.int IntKind.i64 0),.lit (Value.slice none 0 0),.lit (Value.slice none 0 0),.lit (Value.slice none 0 0),.lit (Value.int IntKind.i64 0),.lit (Value.int IntKind.i64 0),.lit (Value.int IntKind.i64 0),.lit (Value.int IntKind.i64 0),.lit (Value.int IntKind.i64 0),.lit (Value.slice none 0 0),.lit (Value.int IntKind.i64 0)]⟩:=⟨⟨⟨_,Tryz.underlying168,Ok,Ok⟩,Ok,⟨Value.agg #[Value.int IntKind.i64 0,Value.slice none 0 0,Value.slice none 0 0,Value.slice none 0 0,Value.int IntKind.i64 0,Value.int IntKind.i64 0,Value.int IntKind.i64 0,Value.int IntKind.i64 0,Value.int IntKind.i64 0,Value.slice none 0 0,Value.int IntKind.i64 0],Ok,Ok,Ok,⟨_,rfl⟩⟩⟩⟩
instance i182:TyI Tryz.prog 182 ⟨.struct [(0,3),(3,1),(4,1),(5,1)],6,80,[.lit (Value.int IntKind.i64 0),.lit (Value.slice none 0 0),.lit (Value.slice none 0 0),.lit (Value.int IntKind.i64 0),.lit (Value.int IntKind.i64 0),.lit (Value.int IntKind.i64 0)]⟩:=⟨⟨⟨_,Tryz.underlying182,Ok,Ok⟩,Ok,⟨Value.agg #[Value.int IntKind.i64 0,Value.slice none 0 0,Value.slice none 0 0,Value.int IntKind.i64 0,Value.int IntKind.i64 0,Value.int IntKind.i64 0],Ok,Ok,Ok,⟨_,rfl⟩⟩⟩⟩
instance i183:TyI Tryz.prog 183 ⟨.struct [(0,3),(3,1),(4,1),(5,1)],6,80,[.lit (Value.int IntKind.i64 0),.lit (Value.slice none 0 0),.lit (Value.slice none 0 0),.lit (Value.int IntKind.i64 0),.lit (Value.int IntKind.i64 0),.lit (Value.int IntKind.i64 0)]⟩:=⟨⟨⟨_,Tryz.underlying183,Ok,Ok⟩,Ok,⟨Value.agg #[Value.int IntKind.i64 0,Value.slice none 0 0,Value.slice none 0 0,Value.int IntKind.i64 0,Value.int IntKind.i64 0,Value.int IntKind.i64 0],Ok,Ok,Ok,⟨_,rfl⟩⟩⟩⟩
instance i186:TyI Tryz.prog 186 ⟨.array 64 3,64,512,List.replicate 64 (.lit (Value.int IntKind.i64 0))⟩:=⟨⟨Tryz.underlying186,Ok,⟨Value.agg #[Value.int IntKind.i64 0,Value.int IntKind.i64 0,Value.int IntKind.i64 0,Value.int IntKind.i64 0,Value.int IntKind.i64 0,Value.int IntKind.i64 0,Value.int IntKind.i64 0,Value.int IntKind.i64 0,Value.int IntKind.i64 0,Value.int IntKind.i64 0,Value.int IntKind.i64 0,Value.int IntKind.i64 0,Value.int IntKind.i64 0,Value.int IntKind.i64 0,Value.int IntKind.i64 0,Value.int IntKind.i64 0,Value.int IntKind.i64 0,Value.int IntKind.i64 0,Value.int IntKind.i64 0,Value.int IntKind.i64 0,Value.int IntKind.i64 0,Value.int IntKind.i64 0,Value.int IntKind.i64 0,Value.int IntKind.i64 0,Value.int IntKind.i64 0,Value.int IntKind.i64 0,Value.int IntKind.i64 0,Value.int IntKind.i64 0,Value.int IntKind.i64 0,Value.int IntKind.i64 0,Value.int IntKind.i64 0,Value.int IntKind.i64 0,Value.int IntKind.i64 0,Value.int IntKind.i64 0,Value.int IntKind.i64 0,Value.int IntKind.i64 0,Value.int IntKind.i64 0,Value.int IntKind.i64 0,Value.int IntKind.i64 0,Value.int IntKind.i64 0,Value.int IntKind.i64 0,Value.int IntKind.i64 0,Value.int IntKind.i64 0,Value.int IntKind.i64 0,Value.int IntKind.i64 0,Value.int IntKind.i64 0,Value.int IntKind.i64 0,Value.int IntKind.i64 0,Value.int IntKind.i64 0,Value.int IntKind.i64 0,Value.int IntKind.i64 0,Value.int IntKind.i64 0,Value.int IntKind.i64 0,Value.int IntKind.i64 0,Value.int IntKind.i64 0,Value.int IntKind.i64 0,Value.int IntKind.i64 0,Value.int IntKind.i64 0,Value.int IntKind.i64 0,Value.int IntKind.i64 0,Value.int IntKind.i64 0,Value.int IntKind.i64 0,Value.int IntKind.i64 0,Value.int IntKind.i64 0],Ok,Ok,Ok,⟨_,rfl⟩⟩⟩⟩
instance i211:TyI Tryz.prog 211 ⟨.struct [(0,1),(1,1)],2,48,[.lit (Value.slice none 0 0),.lit (Value.slice none 0 0)]⟩:=⟨⟨⟨_,Tryz.underlying211,Ok,Ok⟩,Ok,⟨Value.agg #[Value.slice none 0 0,Value.slice none 0 0],Ok,Ok,Ok,⟨_,rfl⟩⟩⟩⟩
instance i212:TyI Tryz.prog 212 ⟨.struct [(0,1),(1,1)],2,48,[.lit (Value.slice none 0 0),.lit (Value.slice none 0 0)]⟩:=⟨⟨⟨_,Tryz.underlying212,Ok,Ok⟩,Ok,⟨Value.agg #[Value.slice none 0 0,Value.slice none 0 0],Ok,Ok,Ok,⟨_,rfl⟩⟩⟩⟩
instance i217:TyI Tryz.prog 217 ⟨.slice 129,1,24,[.lit (Value.slice none 0 0)]⟩:=⟨⟨Tryz.underlying217,Ok,⟨Value.slice none 0 0,Ok,Ok,Ok,rfl⟩⟩⟩
instance i233:TyI Tryz.prog 233 ⟨.array 4 4,4,4,[.lit (Value.bool false),.lit (Value.bool false),.lit (Value.bool false),.lit (Value.bool false)]⟩:=⟨⟨Tryz.underlying233,Ok,⟨Value.agg #[Value.bool false,Value.bool false,Value.bool false,Value.bool false],Ok,Ok,Ok,⟨_,rfl⟩⟩⟩⟩
instance i249:TyI Tryz.prog 249 ⟨.int .i64,1,8,[.lit (Value.int IntKind.i64 0)]⟩:=⟨⟨Tryz.underlying249,Ok,⟨Value.int IntKind.i64 0,Ok,Ok,Ok,rfl⟩⟩⟩
instance i256:TyI Tryz.prog 256 ⟨.int .u32,1,4,[.lit (Value.int IntKind.u32 0)]⟩:=⟨⟨Tryz.underlying256,Ok,⟨Value.int IntKind.u32 0,Ok,Ok,Ok,rfl⟩⟩⟩
instance i271:TyI Tryz.prog 271 ⟨.int .u64,1,8,[.lit (Value.int IntKind.u64 0)]⟩:=⟨⟨Tryz.underlying271,Ok,⟨Value.int IntKind.u64 0,Ok,Ok,Ok,rfl⟩⟩⟩
instance i275:TyI Tryz.prog 275 ⟨.ptr 3,1,8,[.lit (Value.pointer none)]⟩:=⟨⟨Tryz.underlying275,Ok,⟨Value.pointer none,Ok,Ok,Ok,rfl⟩⟩⟩
instance i281:TyI Tryz.prog 281 ⟨.ptr 271,1,8,[.lit (Value.pointer none)]⟩:=⟨⟨Tryz.underlying281,Ok,⟨Value.pointer none,Ok,Ok,Ok,rfl⟩⟩⟩
instance i285:TyI Tryz.prog 285 ⟨.struct [(0,1),(1,1),(2,1),(3,1)],4,40,[.lit (Value.pointer none),.lit (Value.pointer none),.lit (Value.pointer none),.lit (Value.string { data:=#[] })]⟩:=⟨⟨⟨_,Tryz.underlying285,Ok,Ok⟩,Ok,⟨Value.agg #[Value.pointer none,Value.pointer none,Value.pointer none,Value.string { data:=#[] }],Ok,Ok,Ok,⟨_,rfl⟩⟩⟩⟩
instance i286:TyI Tryz.prog 286 ⟨.struct [(0,1),(1,1),(2,1),(3,1)],4,40,[.lit (Value.pointer none),.lit (Value.pointer none),.lit (Value.pointer none),.lit (Value.string { data:=#[] })]⟩:=⟨⟨⟨_,Tryz.underlying286,Ok,Ok⟩,Ok,⟨Value.agg #[Value.pointer none,Value.pointer none,Value.pointer none,Value.string { data:=#[] }],Ok,Ok,Ok,⟨_,rfl⟩⟩⟩⟩
instance i287:TyI Tryz.prog 287 ⟨.array 0 16,0,0,[]⟩:=⟨⟨Tryz.underlying287,Ok,⟨Value.agg #[],Ok,Ok,Ok,⟨_,rfl⟩⟩⟩⟩
instance i288:TyI Tryz.prog 288 ⟨.struct [(0,0)],0,0,[]⟩:=⟨⟨⟨_,Tryz.underlying288,Ok,Ok⟩,Ok,⟨Value.agg #[],Ok,Ok,Ok,⟨_,rfl⟩⟩⟩⟩
instance i289:TyI Tryz.prog 289 ⟨.struct [(0,0)],0,0,[]⟩:=⟨⟨⟨_,Tryz.underlying289,Ok,Ok⟩,Ok,⟨Value.agg #[],Ok,Ok,Ok,⟨_,rfl⟩⟩⟩⟩
instance i290:TyI Tryz.prog 290 ⟨.int .u8,1,1,[.lit (Value.int IntKind.u8 0)]⟩:=⟨⟨Tryz.underlying290,Ok,⟨Value.int IntKind.u8 0,Ok,Ok,Ok,rfl⟩⟩⟩
instance i291:TyI Tryz.prog 291 ⟨.int .u8,1,1,[.lit (Value.int IntKind.u8 0)]⟩:=⟨⟨Tryz.underlying291,Ok,⟨Value.int IntKind.u8 0,Ok,Ok,Ok,rfl⟩⟩⟩
instance i293:TyI Tryz.prog 293 ⟨.ptr 5,1,8,[.lit (Value.pointer none)]⟩:=⟨⟨Tryz.underlying293,Ok,⟨Value.pointer none,Ok,Ok,Ok,rfl⟩⟩⟩
instance i294:TyI Tryz.prog 294 ⟨.int .i32,1,4,[.lit (Value.int IntKind.i32 0)]⟩:=⟨⟨Tryz.underlying294,Ok,⟨Value.int IntKind.i32 0,Ok,Ok,Ok,rfl⟩⟩⟩
instance i295:TyI Tryz.prog 295 ⟨.int .i32,1,4,[.lit (Value.int IntKind.i32 0)]⟩:=⟨⟨Tryz.underlying295,Ok,⟨Value.int IntKind.i32 0,Ok,Ok,Ok,rfl⟩⟩⟩
instance i296:TyI Tryz.prog 296 ⟨.struct [(0,1),(1,1),(2,1),(3,1),(4,1),(5,1),(6,1),(7,1),(8,1),(9,1),(10,1)],11,48,[.lit (Value.int IntKind.u64 0),.lit (Value.int IntKind.u64 0),.lit (Value.int IntKind.u32 0),.lit (Value.int IntKind.u8 0),.lit (Value.int IntKind.u8 0),.lit (Value.int IntKind.u8 0),.lit (Value.int IntKind.u8 0),.lit (Value.nilFunc),.lit (Value.pointer none),.lit (Value.int IntKind.i32 0),.lit (Value.int IntKind.i32 0)]⟩:=⟨⟨⟨_,Tryz.underlying296,Ok,Ok⟩,Ok,⟨Value.agg #[Value.int IntKind.u64 0,Value.int IntKind.u64 0,Value.int IntKind.u32 0,Value.int IntKind.u8 0,Value.int IntKind.u8 0,Value.int IntKind.u8 0,Value.int IntKind.u8 0,Value.nilFunc,Value.pointer none,Value.int IntKind.i32 0,Value.int IntKind.i32 0],Ok,Ok,Ok,⟨_,rfl⟩⟩⟩⟩
instance i297:TyI Tryz.prog 297 ⟨.struct [(0,1),(1,1),(2,1),(3,1),(4,1),(5,1),(6,1),(7,1),(8,1),(9,1),(10,1)],11,48,[.lit (Value.int IntKind.u64 0),.lit (Value.int IntKind.u64 0),.lit (Value.int IntKind.u32 0),.lit (Value.int IntKind.u8 0),.lit (Value.int IntKind.u8 0),.lit (Value.int IntKind.u8 0),.lit (Value.int IntKind.u8 0),.lit (Value.nilFunc),.lit (Value.pointer none),.lit (Value.int IntKind.i32 0),.lit (Value.int IntKind.i32 0)]⟩:=⟨⟨⟨_,Tryz.underlying297,Ok,Ok⟩,Ok,⟨Value.agg #[Value.int IntKind.u64 0,Value.int IntKind.u64 0,Value.int IntKind.u32 0,Value.int IntKind.u8 0,Value.int IntKind.u8 0,Value.int IntKind.u8 0,Value.int IntKind.u8 0,Value.nilFunc,Value.pointer none,Value.int IntKind.i32 0,Value.int IntKind.i32 0],Ok,Ok,Ok,⟨_,rfl⟩⟩⟩⟩
theorem mixedP:Tryz.prog.follows .mixedOrders=true:=by kernel_rfl
instance:MixP Tryz.prog:=⟨mixedP⟩
end Go.Proofs.YthpnlnjdmlbnaaaGreatDoor
