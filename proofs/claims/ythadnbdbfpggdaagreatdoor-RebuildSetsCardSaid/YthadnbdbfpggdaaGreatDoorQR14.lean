/- Parts of the proof. No condition. -/
import Derived.Test.YthadnbdbfpggdaaGreatDoorQR0
import Derived.Test.YthadnbdbfpggdaaGreatDoorQR13
noncomputable section
namespace Go.Proofs.YthadnbdbfpggdaaGreatDoor
open Go.RowKit
set_option linter.unusedSimpArgs false
set_option linter.unusedVariables false
theorem some_b{b:Bool}{p:Prop}(h:b=true<->p):some b=some (bP p):=by
 congr 1;cases b with
 | true=>exact (Qa5 (h.1 rfl)).symm
 | false=>exact (Qfm λa=>by cases h.2 a).symm
theorem some_t{p:Prop}(h:p):some true=some (bP p):=by rw[Qa5 h]
theorem Qff{p:Prop}(h:¬ p):some false=some (bP p):=by rw[Qfm h]
theorem bndR_ok{β ρ:Type}{x:Option (β ⊕ ρ)}{z:β ⊕ ρ}{K:β->Option ρ}{r:Option ρ}(h:x=some z)(k:(match z with | .inl b=>K b | .inr r'=>some r')=r):bndR x K=r:=by subst h;cases z <;> exact k
theorem Qgo{s:Sp}(e:QcQ s.sh){a:Int}(n:Nat)(c:a=n)(f:n<=4294967296):Qbv .i64 a (wu s.sh)=((n*szS s:Nat):Int):=by obtain ⟨h,i,j,d,b⟩:=Jo e;have g:n*szS s<=4294967296*256:=VP f d;rw[Xg Oo,show s.sh=((s.sh.toNat:Nat):Int) by omega,shl_pow Oo (by rw[b,c,<- YV];omega),b,c];push_cast;rfl
theorem Qfn{s:Sp}(a:QcQ s.sh):0<=wu s.sh:=by unfold QcQ at a;rw[Xg Oo];omega
theorem rshift_c(k:Int):Zr k=some (bP (QcQ k)):=by
 unfold Zr QcQ;by_cases h:3<=k
 ·rw[if_pos h];exact some_b (by simp[h])
 ·rw[if_neg h];exact Qff λa=>h a.1
theorem shift_c(k:Int):Qao k=some (bP (QcQ k)):=rshift_c k
theorem zero_c(l:List Int)(m:l.length<=9223372036854775807):QaT l=some (bP (AllZ l)):=by
 unfold QaT;obtain ⟨z,h1,b⟩:∃ z:Unit ⊕ Bool,Qf (λ(f:Int) =>
   if f<(l.length:Int) then
   ((at_ l f).bind λi =>
   if i=0 then
   (some (.go (w64 (f+1))))
   else
   some (.out (.inr (false))))
   else
   some (.out (.inl (())))) 0=some z/\((z = .inl ()/\AllZ l)\/(z = .inr false/\¬ AllZ l)):=by
  refine QeQ (λx:Int=>∃ k:Nat,x=k/\k<=l.length/\∀ a (h:a<l.length),a<k->l[a]=0) _ (λx=>l.length-x.toNat) ⟨0,rfl,WO _,λa _ h=>absurd h (WT _)⟩ ?_
  rintro x ⟨k,rfl,hk,hz⟩
  by_cases c:k<l.length
  ·rw[if_pos Oo,Qg0 c]
   simp only[WB]
   by_cases d:l[k]=0
   ·rw[if_pos d]
    refine .inl ⟨_,rfl,⟨k+1,by rw[Qb Oo];rfl,c,λa e h=>?_⟩,by rw[Qb Oo];omega⟩
    by_cases g:a=k
    ·subst g;exact d
    ·exact hz a e Oo
   ·rw[if_neg d]
    exact .inr ⟨_,rfl,.inr ⟨rfl,λh=>d (h _ (Wc _))⟩⟩
  ·rw[if_neg Oo]
   refine .inr ⟨_,rfl,.inl ⟨rfl,λx j=>?_⟩⟩
   obtain ⟨a,e,rfl⟩:=WL.1 j
   exact hz a e Oo
 refine bndR_ok h1 ?_;rcases b with ⟨rfl,b⟩ | ⟨rfl,b⟩
 ·exact some_t b
 ·exact Qff b
theorem stamped_c(f:Fe):X5 f=some (bP (Stp f.ow f.st)):=by
 unfold X5;by_cases j:f.ow<0
 ·rw[if_pos j];exact Qff λh=>by have:=h.1;omega
 rw[if_neg j];by_cases k:4294967295<f.ow
 ·rw[if_pos k];exact Qff λh=>by have:=h.2.1;omega
 rw[if_neg k];obtain ⟨z,h3,c⟩:∃ z:Unit ⊕ Bool,Qf (λ(i:Int) =>
   if i<4 then
   (if f.st=(w64 (f.ow+(w64 (i*4294967296)))) then
   (some (.out (.inr (true))))
   else
   some (.go (w64 (i+1))))
   else
   some (.out (.inl (())))) 0=some z/\((z = .inl ()/\¬ Stp f.ow f.st)\/(z = .inr true/\Stp f.ow f.st)):=by
  refine QeQ (λx:Int=>0<=x/\x<=4/\∀ b:Int,0<=b->b<x->f.st≠f.ow+b*4294967296) _ (λx=>(4-x).toNat) ⟨Oo,Oo,λb _ h=>by omega⟩ ?_
  rintro x ⟨h0,c,hno⟩
  by_cases a:x<4
  ·rw[if_pos a,Qb (n:=x*4294967296) Oo,Qb (n:=f.ow+x*4294967296) Oo]
   by_cases d:f.st=f.ow+x*4294967296
   ·rw[if_pos d]
    exact .inr ⟨_,rfl,.inr ⟨rfl,Oo,Oo,x,h0,a,d⟩⟩
   ·rw[if_neg d,Qb (n:=x+1) Oo]
    refine .inl ⟨_,rfl,⟨Oo,Oo,λb e l=>?_⟩,Oo⟩
    by_cases g:b=x
    ·subst g;exact d
    ·exact hno b e Oo
  ·rw[if_neg a]
   refine .inr ⟨_,rfl,.inl ⟨rfl,λh=>?_⟩⟩
   obtain ⟨b,e,l,g⟩:=h.2.2
   exact hno b e Oo g
 refine bndR_ok h3 ?_;rcases c with ⟨rfl,c⟩ | ⟨rfl,c⟩
 ·exact Qff c
 ·exact some_t c
theorem straight_c(s:Sp)(q:NxIn s.fs)(u:s.fs.length<=64):Xt s=some (bP (StrF s.fs)):=by
 unfold Xt;obtain ⟨z,h1,f⟩:∃ z:Unit ⊕ Bool,Qf (λ(o:Int) =>
   if o<(s.fs.length:Int) then
   (bndR ((at_ s.fs o).bind λp =>
   Qf (λ(b:Int×Int) =>
   if 0<=b.1 then
   (if b.2<(s.fs.length:Int) then
   (if b.1=o then
   (some (.out (.inr (.out (.inr (false))))))
   else
   (at_ s.fs b.1).bind λd =>
   some (.go ((d.nx,w64 (b.2+1)))))
   else
   some (.out (.inl (()))))
   else
   some (.out (.inl (())))) (p.nx,0)) λ(v:Unit) =>
   some (.go (w64 (o+1))))
   else
   some (.out (.inl (())))) 0=some z/\((z = .inl ()/\StrF s.fs)\/(z = .inr false/\¬ StrF s.fs)):=by
  refine QeQ (λx:Int=>∃ i:Nat,x=i/\i<=s.fs.length/\∀ a,a<i->∀ k,k<s.fs.length->itF s.fs (k+1) a≠a) _ (λx=>s.fs.length-x.toNat) ⟨0,rfl,WO _,λa h=>absurd h (WT _)⟩ ?_
  rintro x ⟨i,rfl,hi,hs⟩
  by_cases c:i<s.fs.length
  ·rw[if_pos Oo,Qg0 c]
   simp only[WB]
   obtain ⟨y,k1,e⟩:∃ y:Unit ⊕ LS Int (Unit ⊕ Bool),Qf (λ(b:Int×Int) =>
     if 0<=b.1 then
     (if b.2<(s.fs.length:Int) then
     (if b.1=(i:Int) then
     (some (.out (.inr (.out (.inr (false))))))
     else
     (at_ s.fs b.1).bind λd =>
     some (.go ((d.nx,w64 (b.2+1)))))
     else
     some (.out (.inl (()))))
     else
     some (.out (.inl (())))) (s.fs[i].nx,0)=some y/\((y = .inl ()/\∀ k,k<s.fs.length->itF s.fs (k+1) i≠i)\/(y = .inr (.out (.inr false))/\¬ StrF s.fs)):=by
    refine QeQ (λx:Int×Int=>∃ m:Nat,x=(itF s.fs (m+1) i,(m:Int))/\m<=s.fs.length/\∀ k,k<m->itF s.fs (k+1) i≠i) _ (λx=>s.fs.length-x.2.toNat) ⟨0,by rw[itF_succ,show itF s.fs 0 (i:Int)=i from rfl,nxF_at c];rfl,WO _,λk h=>absurd h (WT _)⟩ ?_
    rintro x ⟨m,rfl,hm,hk⟩
    dsimp only
    by_cases l:0<=itF s.fs (m+1) i
    ·rw[if_pos l]
     by_cases g:m<s.fs.length
     ·rw[if_pos Oo]
      by_cases n:itF s.fs (m+1) i=i
      ·rw[if_pos n]
       exact .inr ⟨_,rfl,.inr ⟨rfl,λh=>h i c m g n⟩⟩
      ·rw[if_neg n]
       have r:=q.it (m+1) i Oo
       rw[at_int l Oo]
       simp only[WB]
       refine .inl ⟨_,rfl,⟨m+1,?_,g,λk h=>?_⟩,by rw[Qb Oo];omega⟩
       ·rw[itF_succ (m+1),nxF_z l Oo,Qb Oo];rfl
       ·by_cases j:k=m
        ·subst j;exact n
        ·exact hk k Oo
     ·rw[if_neg Oo]
      exact .inr ⟨_,rfl,.inl ⟨rfl,λk h=>hk k Oo⟩⟩
    ·rw[if_neg l]
     refine .inr ⟨_,rfl,.inl ⟨rfl,λk h=>?_⟩⟩
     by_cases j:k<m
     ·exact hk k j
     ·have r:=q.it (m+1) i Oo
      rw[show k+1=(m+1)+(k-m) by omega,J1,XN _ Oo]
      omega
   rcases e with ⟨rfl,e⟩ | ⟨rfl,e⟩
   ·rw[bndR_eq k1]
    refine .inl ⟨_,rfl,⟨i+1,by rw[Qb Oo];rfl,c,λa t=>?_⟩,by rw[Qb Oo];omega⟩
    by_cases j:a=i
    ·subst j;exact e
    ·exact hs a Oo
   ·rw[bndR_eqR k1]
    exact .inr ⟨_,rfl,.inr ⟨rfl,e⟩⟩
  ·rw[if_neg Oo]
   exact .inr ⟨_,rfl,.inl ⟨rfl,λa t=>hs a Oo⟩⟩
 refine bndR_ok h1 ?_;rcases f with ⟨rfl,f⟩ | ⟨rfl,f⟩
 ·exact some_t f
 ·exact Qff f
section
variable{α β ρ σ:Type}{G:α->Prop}
def Gd(G:α->Prop)(v:Option α):Prop:=∃ a,v=some a/\G a
theorem Gd.some{a:α}(h:G a):Gd G (some a):=⟨a,rfl,h⟩
theorem Gd.mono{P:α->Prop}{v:Option α}(h:Gd P v)(k:∀ a,P a->G a):Gd G v:=by obtain ⟨a,b,c⟩:=h;exact ⟨a,b,k a c⟩
theorem Gd.eq{v:Option α}{a:α}(h:Gd (λx=>x=a) v):v = .some a:=by obtain ⟨b,c,rfl⟩:=h;exact c
theorem Gd.of{v:Option α}{a:α}(h:v = .some a)(k:G a):Gd G v:=⟨a,h,k⟩
theorem Gd.bind{P:β->Prop}{x:Option β}{K:β->Option α}(h:Gd P x)(k:∀ a,P a->Gd G (K a)):Gd G (x.bind K):=by obtain ⟨a,rfl,b⟩:=h;exact k a b
theorem Gd.call{x:Option β}{a:β}{K:β->Option α}(h:x = .some a)(k:Gd G (K a)):Gd G (x.bind K):=by subst h;exact k
theorem Gd.bndR{P:β ⊕ α->Prop}{x:Option (β ⊕ α)}{K:β->Option α}(h:Gd P x)(k:∀ b,P (.inl b)->Gd G (K b))(d:∀ r,P (.inr r)->G r):Gd G (bndR x K):=by
 obtain ⟨a,rfl,c⟩:=h;cases a with
 | inl b=>exact k b c
 | inr r=>exact ⟨r,rfl,d r c⟩
theorem Gd.ite{p:Prop}[Decidable p]{a b:Option α}(c:p->Gd G a)(d:¬ p->Gd G b):Gd G (if p then a else b):=by
 by_cases h:p
 ·rw[if_pos h];exact c h
 ·rw[if_neg h];exact d h
theorem Gd.pos{p:Prop}[Decidable p]{a b:Option α}(h:p)(c:Gd G a):Gd G (if p then a else b):=by rw[if_pos h];exact c
theorem Gd.neg{p:Prop}[Decidable p]{a b:Option α}(h:¬ p)(c:Gd G b):Gd G (if p then a else b):=by rw[if_neg h];exact c
theorem Gd.at{l:List β}{i:Int}{K:β->Option α}(a:0<=i)(h:i.toNat<l.length)(k:Gd G (K (l[i.toNat]'h))):Gd G ((at_ l i).bind K):=by rw[at_int a h];exact k
theorem Gd.atN{l:List β}{i:Nat}{K:β->Option α}(h:i<l.length)(k:Gd G (K l[i])):Gd G ((at_ l (i:Int)).bind K):=by rw[Qg0 h];exact k
theorem Gd.at0{l:List β}{K:β->Option α}(h:0<l.length)(k:Gd G (K l[0])):Gd G ((at_ l 0).bind K):=Gd.atN (i:=0) h k
def LSP(I:σ->Prop)(Q:β->Prop)(μ:σ->Nat)(m:Nat):LS σ β->Prop
 | .go s=>I s/\μ s<m
 | .out b=>Q b
theorem Gd.loop{f:σ->Option (LS σ β)}{s:σ}(I:σ->Prop)(Q:β->Prop)(μ:σ->Nat)(d:I s)(h:∀ s,I s->Gd (LSP I Q μ (μ s)) (f s)):Gd Q (Qf f s) :=
 QeQ I Q μ d λs d=>by
  obtain ⟨a,e,c⟩:=h s d;cases a with
  | go s'=>exact .inl ⟨s',e,c.1,c.2⟩
  | out b=>exact .inr ⟨b,e,c⟩
theorem Gd.go{I:σ->Prop}{Q:β->Prop}{μ:σ->Nat}{m:Nat}{s:σ}(h:I s)(k:μ s<m):Gd (LSP I Q μ m) (.some (LS.go s)):=⟨_,rfl,h,k⟩
theorem Gd.out{I:σ->Prop}{Q:β->Prop}{μ:σ->Nat}{m:Nat}{b:β}(h:Q b):Gd (LSP I Q μ m) (.some (LS.out b)):=⟨_,rfl,h⟩
theorem Gd.count{f:σ->Option (LS σ β)}{s:σ}(J:Nat->σ)(n:Nat)(Q:β->Prop)(I:Nat->Prop)(m:s=J 0)(c:I 0)
  (h:∀ k,k<n->I k->Gd (λa=>(∃ s',a=LS.go s'/\s'=J (k+1)/\I (k+1))\/∃ b,a=LS.out b/\Q b) (f (J k)))(o:I n->Gd (λa=>∃ b,a=LS.out b/\Q b) (f (J n))):Gd Q (Qf f s):=by
 have g:∀ d k,k+d=n->I k->Gd Q (Qf f (J k)):=by
  intro d;induction d with
  | zero =>
   intro k l c;obtain rfl:k=n:=by omega
   obtain ⟨a,e,b,rfl,i⟩:=o c;exact ⟨b,QcY e,i⟩
  | succ d ih =>
   intro k l c;obtain ⟨a,e,i⟩:=h k Oo c;rcases i with ⟨s',rfl,rfl,j⟩ | ⟨b,rfl,j⟩
   ·rw[Qf4 e];exact ih (k+1) Oo j
   ·exact ⟨b,QcY e,j⟩
 subst m;exact g n 0 Oo c
end
theorem Gd.t{p:Prop}(h:p):Gd (λx=>x=bP p) (.some true):=.some (Qa5 h).symm
theorem Gd.f{p:Prop}(h:¬ p):Gd (λx=>x=bP p) (.some false):=.some (Qfm h).symm
theorem Gd.b{p:Prop}{b:Bool}(h:b=true<->p):Gd (λx=>x=bP p) (.some b):=.some (by
 cases b with
 | true=>exact (Qa5 (h.1 rfl)).symm
 | false=>exact (Qfm λa=>by cases h.2 a).symm)
def Qfe(fs:List Fe)(n:Nat)(c:List Int):Prop:=c.length=64/\∀ j (h:j<c.length),(c[j]=0\/c[j]=1)/\(c[j]=1<->∃ i,∃ h:i<fs.length,i<n/\fs[i].nx=j)
theorem Qfe.zero{fs:List Fe}:Qfe fs 0 (List.replicate 64 0):=⟨Os,λj a=>by
 rw[Yj]
 exact ⟨.inl rfl,λh=>absurd h Od,λ⟨i,_,h,_⟩=>by omega⟩⟩
theorem Qfe.skip{fs:List Fe}{n:Nat}{c:List Int}(h:Qfe fs n c)(g:n<fs.length)(f:fs[n].nx<0):Qfe fs (n+1) c:=⟨h.1,λj d=>⟨(h.2 j d).1,(h.2 j d).2.trans ⟨λ⟨i,a,e,b⟩=>⟨i,a,Oo,b⟩,λ⟨i,a,e,b⟩=>by
 rcases VK.1 e with h3 | h3
 ·exact ⟨i,a,h3,b⟩
 ·subst h3;omega⟩⟩⟩
theorem Qfe.set{fs:List Fe}{n p:Nat}{c:List Int}(h:Qfe fs n c)(m:n<fs.length)(o:p<c.length)(l:fs[n].nx=p)(k:c[p]=0):Qfe fs (n+1) (c.set p (c[p]+1)):=by
 refine ⟨by rw[Ww];exact h.1,λj f=>?_⟩;rw[Ww]at f;have d:=h.2 j f;by_cases e:j=p
 ·subst e;rw[Ui,k];exact ⟨.inr rfl,λ_=>⟨n,m,Oo,l⟩,λ_=>rfl⟩
 ·rw[VS (λh=>e h.symm)];refine ⟨d.1,d.2.trans ⟨λ⟨i,a,g,b⟩=>⟨i,a,Oo,b⟩,λ⟨i,a,g,b⟩=>?_⟩⟩;rcases VK.1 g with h3 | h3
  ·exact ⟨i,a,h3,b⟩
  ·subst h3;omega
theorem UqF.setC{fs:List Fe}{n p:Nat}{c:List Int}(h:UqF fs n)(o:n<fs.length)(k:Qfe fs n c)(g:p<c.length)(l:fs[n].nx=p)(m:c[p]=0):UqF fs (n+1):=λi j d f a b e=>by
 rcases VK.1 b with h3 | h3
 ·exact h i j d f a h3 e
 ·subst h3;have:=(k.2 p g).2.2 ⟨i,d,a,e.trans l⟩;omega
theorem UqF.notC{fs:List Fe}{n p:Nat}{c:List Int}(d:n<fs.length)(b:Qfe fs n c)(a:p<c.length)(j:fs[n].nx=p)(k:¬ c[p]=0):¬ UqF fs fs.length:=λh=>by obtain ⟨i,e,f,g⟩:=(b.2 p a).2.1 (by have:=(b.2 p a).1;omega);have:=h i n e d f d (g.trans j.symm);omega
theorem not_both{s:Sp}{n:Nat}(b:n<s.fs.length)(a:¬ Qfy s n s.fs[n])(h:¬ QcL s n s.fs[n]):¬ Zn s:=Zn.not_fm b λk=>by
 rcases k with k | k
 ·exact a k
 ·exact h k
theorem Zn.nxIn{s:Sp}(h:Zn s):NxIn s.fs:=Q2 h.fm
theorem not_used{s:Sp}{n:Nat}(b:n<s.fs.length)(a:¬ s.fs[n].ow = -1)(h:¬ QcL s n s.fs[n]):¬ Zn s:=Zn.not_fm b λk=>by
 rcases k with k | k
 ·exact a k.1
 ·exact h k
theorem not_free{s:Sp}{n:Nat}(a:n<s.fs.length)(b:s.fs[n].ow = -1)(h:¬ Qfy s n s.fs[n]):¬ Zn s:=Zn.not_fm a λk=>by
 rcases k with k | k
 ·exact h k
 ·have:=k.1.1;omega
theorem part_e{α:Type}(l:List α)(k z:Nat):(l.take ((k+1)*z)).drop (k*z)=(l.drop (k*z)).take z:=by rw[List.drop_take];congr 1;rw[Vm];omega
theorem SpW.at{s:Sp}(h:SpW s){k:Nat}(a:k<s.fs.length):I64 s.fs[k].ow/\I64 s.fs[k].st/\I64 s.fs[k].nx:=h.2 _ (Wc a)
set_option maxHeartbeats 1000000 in
theorem rvalid_c(s:Sp)(hW:SpW s):Qaj s=some (bP (Zn s)):=by
 refine Gd.eq ?_;unfold Qaj;refine Gd.call (rshift_c _) ?_;refine .ite (λg=>?_) λg=>.f λh=>g (Qa5 h.shp.sh);have g:QcQ s.sh:=QI.1 g;refine .ite (λG=>.f λh=>by have:=h.shp.lo;omega) λG=>?_;refine .ite (λL=>.f λh=>by have:=h.shp.hi;omega) λL=>?_;refine .pos (Qfn g) ?_;rw[Qgo g s.fs.length rfl Oo];refine .ite (λB=>?_) λB=>.f λh=>B (by rw[h.shp.wl]);have B:s.ws.length=s.fs.length*szS s:=by omega
 obtain ⟨g1,g2,g3,g4,g5⟩:=Jo g;have Z:s.fs.length*szS s<=64*256:=VP Oo g4;refine Gd.bndR (P:=λz=>(z = .inl ()/\FmTo s s.fs.length/\UqF s.fs s.fs.length)\/(z = .inr false/\¬ Zn s)) ?_ (λ_ d=>?_) (λr d=>by
  rcases d with ⟨h,_⟩ | ⟨h,d⟩
  ·cases h
  ·injection h with h;rw[h,Qfm d])
 ·refine Gd.loop (λx:List Int×Int=>∃ k:Nat,x.2=k/\k<=s.fs.length/\FmTo s k/\Qfe s.fs k x.1/\UqF s.fs k) _ (λx=>s.fs.length-x.2.toNat) ⟨0,rfl,WO _,λi _ h=>absurd h (WT _),Qfe.zero,λi j _ _ _ h=>absurd h (WT _)⟩ ?_;rintro ⟨c,x⟩ ⟨k,hxk,hk,hfm,hct,huq⟩;dsimp only at hxk hct ⊢;subst hxk;refine .ite (λf=>?_) λf=>.out (.inl ⟨rfl,by have e:k=s.fs.length:= Oo;rw[e]at hfm huq;exact ⟨hfm,huq⟩⟩);have f:k<s.fs.length:=by omega
  have I:k*szS s+szS s<=s.ws.length:=by rw[B,<- Vm];exact VP f (Wl _)
  have F:(k+1)*szS s=k*szS s+szS s:=Vm _ _;obtain ⟨i1,i2,i3⟩:=hW.at f;unfold I64 at i1 i2 i3;have J:w64 ((k:Int)+1)=((k+1:Nat):Int):=Qb Oo;rw[J];have aa:=hct.1;refine Gd.bndR (P:=λz=>(∃ M:List Int,z = .inl M/\FmTo s (k+1)/\Qfe s.fs (k+1) M/\UqF s.fs (k+1))\/(z = .inr (.out (.inr false))/\¬ Zn s)) ?_ (λM d=>?_) (λr d=>?_)
  ·refine .atN f ?_;refine Gd.bndR (P:=λz=>(z = .inl ()/\¬ Qfy s k s.fs[k])\/(z = .inr (.inl c)/\Qfy s k s.fs[k])\/(z = .inr (.inr (.out (.inr false)))/\¬ Zn s)) ?_ (λ_ d=>?_) (λr d=>?_)
   ·refine .ite (λN=>?_) λN=>.some (.inl ⟨rfl,λh=>N h.1⟩);refine .ite (λO=>?_) λO=>.some (.inl ⟨rfl,λh=>O h.2.1⟩);refine .ite (λQ=>?_) λQ=>.some (.inl ⟨rfl,λh=>Q h.2.2.1⟩);rw[Qgo g k rfl Oo,Qgo g (k+1) rfl Oo];refine Gd.bndR (P:=λz=>(z = .inl ()/\ZeroF s k)\/(z = .inr (.inr (.inr (.out (.inr false))))/\¬ Zn s)) ?_ (λ_ d=>?_) (λr d=>?_)
    ·refine Gd.loop (λx:Int=>∃ a:Nat,x=a/\k*szS s<=a/\a<=(k+1)*szS s/\∀ b (h:b<s.ws.length),k*szS s<=b->b<a->s.ws[b]=0) _ (λx=>(k+1)*szS s-x.toNat) ⟨k*szS s,rfl,Wl _,Oo,λb _ X G=>by omega⟩ ?_;rintro x ⟨a,rfl,ha1,ha2,hz⟩;refine .ite (λR=>?_) λR=>.out (.inl ⟨rfl,λb A S h8=>hz b A S Oo⟩);have C:a<s.ws.length:=by omega
     refine .atN C ?_;refine .ite (λz=>?_) λz=>.out (.inr ⟨rfl,not_both f (λh=>z (h.2.2.2 a C ha1 Oo)) λh=>by have:=h.1.1;omega⟩);have m:w64 ((a:Int)+1)=((a+1:Nat):Int):=Qb Oo;refine .go ⟨a+1,m,Oo,Oo,λb h S h8=>?_⟩ (by rw[m,Wd,Wd];omega);by_cases E:b=a
     ·subst E;exact z
     ·exact hz b h S Oo
    ·rcases d with ⟨_,d⟩ | ⟨h,_⟩
     ·exact .some (.inr (.inl ⟨rfl,N,O,Q,d⟩))
     ·cases h
    ·rcases d with ⟨h,_⟩ | ⟨h,d⟩
     ·cases h
     ·injection h with h;exact .inr (.inr ⟨by rw[h],d⟩)
   ·have D:¬ Qfy s k s.fs[k]:=by
     rcases d with ⟨_,h⟩ | ⟨h,_⟩ | ⟨h,_⟩
     ·exact h
     ·cases h
     ·cases h
    have ab:∀ {p:Prop},¬ QcL s k s.fs[k]->¬ Zn s:=λh=>not_both f D h;have w:¬ QcL s k s.fs[k]->¬ Zn s:=not_both f D;refine .call (stamped_c _) ?_;refine .ite (λy=>?_) λy=>.some (.inr ⟨rfl,w λh=>y (Qa5 h.1)⟩);have y:=QI.1 y;refine .ite (λa6=>.some (.inr ⟨rfl,w λh=>by have:=h.2.1;omega⟩)) λa6=>?_;refine .ite (λa7=>.some (.inr ⟨rfl,w λh=>by have:=h.2.2.1;omega⟩)) λa7=>?_;refine .ite (λH=>.some (.inr ⟨rfl,w λh=>h.2.2.2.1 H⟩)) λH=>?_;refine .ite (λY=>?_) λY=>?_
    ·have q:QcL s k s.fs[k]:=⟨y,Oo,Oo,H,λj T e=>by omega⟩;exact .some (.inl ⟨c,rfl,hfm.step f (.inr q),hct.skip f Oo,huq.skip f Y⟩)
    have t:s.fs[k].nx.toNat<s.fs.length:=by omega
    have ac:=(hct.2 s.fs[k].nx.toNat Oo).1;refine .at Oo t ?_;refine .pos Oo ?_;refine .at Oo Oo ?_;refine .ite (λU=>?_) λU=>.some (.inr ⟨rfl,w λh=>U (h.2.2.2.2 s.fs[k].nx.toNat t Oo).1⟩);refine .ite (λu=>?_) λu=>.some (.inr ⟨rfl,w λh=>u (h.2.2.2.2 s.fs[k].nx.toNat t Oo).2⟩);have m:w64 (c[s.fs[k].nx.toNat]+1)=c[s.fs[k].nx.toNat]+1:=Qb Oo;rw[m];refine .at Oo (by rw[Ww];omega) ?_;rw[Ui];refine .ite (λA=>?_) λA=>?_
    ·exact .some (.inr ⟨rfl,λh=>UqF.notC (p:=s.fs[k].nx.toNat) f hct Oo Oo Oo h.uq⟩)
    have q:QcL s k s.fs[k]:=⟨y,Oo,Oo,H,λj T e=>by
     have e2:j=s.fs[k].nx.toNat:=by omega
     subst e2
     exact ⟨U,u⟩⟩
    exact .some (.inl ⟨_,rfl,hfm.step f (.inr q),hct.set f Oo Oo Oo,huq.setC (p:=s.fs[k].nx.toNat) f hct Oo Oo Oo⟩)
   ·rcases d with ⟨h,_⟩ | ⟨h,d⟩ | ⟨h,d⟩
    ·cases h
    ·injection h with h;exact .inl ⟨c,h,hfm.step f (.inl d),hct.skip f (by rw[d.2.2.1];omega),huq.skip f d.2.2.1⟩
    ·injection h with h;exact .inr ⟨h,d⟩
  ·rcases d with ⟨c2,h,X,G,E⟩ | ⟨h,_⟩
   ·injection h with h;subst h;exact .go ⟨k+1,rfl,f,X,G,E⟩ (by dsimp only;omega)
   ·cases h
  ·rcases d with ⟨c2,h,_⟩ | ⟨h,d⟩
   ·cases h
   ·injection h with h;subst h;exact .inr ⟨rfl,d⟩
 ·obtain ⟨hfm,huq⟩:FmTo s s.fs.length/\UqF s.fs s.fs.length:=by
   rcases d with ⟨_,h⟩ | ⟨h,_⟩
   ·exact h
   ·cases h
  have o:∀ i (h:i<s.fs.length),Qfy s i s.fs[i]\/QcL s i s.fs[i]:=λi V=>hfm i V V;have K:NxIn s.fs:=Q2 o;refine Gd.bndR (P:=λz=>(z = .inl ()/\EndF s.fs)\/(z = .inr false/\¬ Zn s)) ?_ (λ_ d=>?_) (λr d=>by
   rcases d with ⟨h,_⟩ | ⟨h,d⟩
   ·cases h
   ·injection h with h;rw[h,Qfm d])
  ·refine Gd.loop (λx:Int=>∃ i:Nat,x=i/\i<=s.fs.length/\∀ j,j<i->itF s.fs (s.fs.length+1) j = -1) _ (λx=>s.fs.length-x.toNat) ⟨0,rfl,WO _,λj h=>absurd h (WT _)⟩ ?_;rintro x ⟨i,rfl,V,hends⟩;refine .ite (λl=>?_) λl=>.out (.inl ⟨rfl,λj T=>hends j Oo⟩);have l:i<s.fs.length:=by omega
   refine Gd.bndR (P:=λz=>(z = .inl ()/\itF s.fs (s.fs.length+1) i = -1)\/(z = .inr (.out (.inr false))/\¬ Zn s)) ?_ (λ_ d=>?_) (λr d=>?_)
   ·refine Gd.bind (P:=λb=>b = -1<->itF s.fs (s.fs.length+1) i = -1) ?_ λb A=>?_
    ·refine Gd.loop (λx:Int×Int=>∃ n:Nat,x=(itF s.fs n i,(n:Int))/\n<=s.fs.length+1) _ (λx=>s.fs.length+1-x.2.toNat) ⟨0,rfl,WO _⟩ ?_;rintro x ⟨n,rfl,hn⟩;dsimp only;have ad:=K.it n i Oo;refine .ite (λW=>?_) λW=>.out (by rw[show s.fs.length+1=n by omega]);refine .ite (λv=>.out ⟨λ_=>?_,λ_=>v⟩) λv=>?_
     ·rw[show s.fs.length+1=n+(s.fs.length+1-n) by omega,J1];exact XN _ v
     refine .at Oo Oo ?_;have m:w64 ((n:Int)+1)=((n+1:Nat):Int):=Qb Oo;exact .go ⟨n+1,by rw[m,itF_succ,nxF_z Oo Oo],Oo⟩ (by dsimp only;rw[m];omega)
    ·refine .ite (λh=>.some (.inl ⟨rfl,A.1 h⟩)) λh=>.some (.inr ⟨rfl,λk=>h (A.2 (k.ends _ l))⟩)
   ·rcases d with ⟨_,h⟩ | ⟨h,_⟩
    ·have m:w64 ((i:Int)+1)=((i+1:Nat):Int):=Qb Oo;refine .go ⟨i+1,m,l,λj T=>?_⟩ (by rw[m];omega);by_cases E:j=i
     ·subst E;exact h
     ·exact hends j Oo
    ·cases h
   ·rcases d with ⟨h,_⟩ | ⟨h,d⟩
    ·cases h
    ·injection h with h;subst h;exact .inr ⟨rfl,d⟩
  ·rcases d with ⟨_,h⟩ | ⟨h,_⟩
   ·exact .t ⟨⟨g,Oo,Oo,B⟩,o,huq,h⟩
   ·cases h
theorem shl1{j:Nat}(b:j<64):0<=(1:Int)*2^j/\(1:Int)*2^j<=18446744073709551615:=by
 have c:(2:Nat)^j<2^64:=U2 Od b;have a:((2:Int)^j)=((2^j:Nat):Int):=by push_cast;rfl
 rw[YI,a];generalize 2^j=x at *;omega
theorem shru{a:Int}{j:Nat}(h:0<=a/\a<=18446744073709551615)(b:j<=64):QbV .u64 a (j:Int)=a/2^j:=by unfold QbV;rw[Wd,W5 (show j<=IntKind.u64.bits from b)];exact Uy _ (Waa (Int.pow_pos Od))
theorem shlu1{j:Nat}(a:j<64):Qbv .u64 1 (j:Int)=2^j:=by unfold Qbv;rw[Wd,W5 (show j<=IntKind.u64.bits from (by show j<=64;omega)),YI];exact Xg (by have:=shl1 a;rw[YI]at this;exact this)
set_option maxHeartbeats 1000000 in
theorem valid_c(s:Sp)(Y:SpW s):Jl s=some (bP (Zn s)):=by
 refine Gd.eq ?_;unfold Jl;refine Gd.call (shift_c _) ?_;refine .ite (λb=>?_) λb=>.f λh=>b (Qa5 h.shp.sh);have b:QcQ s.sh:=QI.1 b;refine .ite (λQ=>.f λh=>by have:=h.shp.lo;omega) λQ=>?_;refine .ite (λD=>.f λh=>by have:=h.shp.hi;omega) λD=>?_;refine .pos (Qfn b) ?_;rw[Qgo b s.fs.length rfl Oo];refine .ite (λu=>?_) λu=>.f λh=>u (by rw[h.shp.wl]);have u:s.ws.length=s.fs.length*szS s:=by omega
 obtain ⟨Z,g2,g3,N,g5⟩:=Jo b;have K:s.fs.length*szS s<=64*256:=VP Oo N;refine Gd.bndR (P:=λz=>(z = .inl ()/\FmTo s s.fs.length/\UqF s.fs s.fs.length)\/(z = .inr false/\¬ Zn s)) ?_ (λ_ v=>?_) (λr v=>by
  rcases v with ⟨h,_⟩ | ⟨h,v⟩
  ·cases h
  ·injection h with h;rw[h,Qfm v])
 ·refine Gd.loop (λx:Int×Int=>∃ k m:Nat,x=((m:Int),(k:Int))/\k<=s.fs.length/\FmTo s k/\QeF s.fs k m/\UqF s.fs k) _ (λx=>s.fs.length-x.2.toNat) ⟨0,0,rfl,WO _,λi _ h=>absurd h (WT _),⟨Od,λj _=>by simp⟩,λi j _ _ _ h=>absurd h (WT _)⟩ ?_;rintro x ⟨k,m,rfl,hk,hfm,hbt,huq⟩;dsimp only;refine .ite (λa=>?_) λa=>.out (.inl ⟨rfl,by have e:k=s.fs.length:= Oo;rw[e]at hfm huq;exact ⟨hfm,huq⟩⟩);have a:k<s.fs.length:=by omega
  have c:k*szS s+szS s<=s.ws.length:=by rw[u,<- Vm];exact VP a (Wl _)
  have w:(k+1)*szS s=k*szS s+szS s:=Vm _ _;obtain ⟨O,i2,i3⟩:=Y.at a;unfold I64 at O i2 i3;have C:w64 ((k:Int)+1)=((k+1:Nat):Int):=Qb Oo;rw[C];refine .atN a ?_;refine .ite (λt=>?_) λt=>?_
  ·refine .ite (λE=>?_) λE=>.out (.inr ⟨rfl,not_free a t λh=>E h.2.1⟩);refine .ite (λA=>?_) λA=>.out (.inr ⟨rfl,not_free a t λh=>A h.2.2.1⟩);rw[Qgo b k rfl Oo,Qgo b (k+1) rfl Oo];refine .pos ⟨Oo,Oo,Oo⟩ ?_;rw[show ((k*szS s:Nat):Int).toNat=k*szS s from Wd _,show (((k+1)*szS s:Nat):Int).toNat=(k+1)*szS s from Wd _,part_e];refine .call (zero_c _ (by rw[Wf];omega)) ?_;refine .ite (λF=>?_) λF=>.out (.inr ⟨rfl,not_free a t λh=>F (Qa5 ((allz_iff rfl c).2 h.2.2.2))⟩);exact .go ⟨k+1,m,rfl,a,hfm.step a (.inl ⟨t,E,A,(allz_iff rfl c).1 (QI.1 F)⟩),hbt.skip a Oo,huq.skip a A⟩ (by dsimp only;omega)
  have f:¬ QcL s k s.fs[k]->¬ Zn s:=not_used a t;refine .ite (λR=>.out (.inr ⟨rfl,f λh=>by have:=(QeI.1 h.1).1;omega⟩)) λR=>?_;refine .ite (λS=>.out (.inr ⟨rfl,f λh=>by have:=(QeI.1 h.1).2.1;omega⟩)) λS=>?_;refine .ite (λT=>.out (.inr ⟨rfl,f λh=>by have:=(QeI.1 h.1).2.2.1;omega⟩)) λT=>?_;rw[VU Oo];refine .ite (λG=>?_) λG=>.out (.inr ⟨rfl,f λh=>G (QeI.1 h.1).2.2.2.1⟩);rw[Ue Oo,Qb (n:=s.fs[k].st/4294967296) Oo];refine .ite (λU=>.out (.inr ⟨rfl,f λh=>by have:=(QeI.1 h.1).2.2.2.2;omega⟩)) λU=>?_;refine .ite (λV=>.out (.inr ⟨rfl,f λh=>by have:=h.2.1;omega⟩)) λV=>?_;refine .ite (λW=>.out (.inr ⟨rfl,f λh=>by have:=h.2.2.1;omega⟩)) λW=>?_;refine .ite (λB=>.out (.inr ⟨rfl,f λh=>h.2.2.2.1 B⟩)) λB=>?_;have g:Stp s.fs[k].ow s.fs[k].st:=QeI.2 ⟨Oo,Oo,Oo,G,Oo⟩;refine .ite (λI=>?_) λI=>?_
  ·have l:QcL s k s.fs[k]:=⟨g,Oo,Oo,B,λj X e=>by omega⟩;exact .go ⟨k+1,m,rfl,a,hfm.step a (.inr l),hbt.skip a I,huq.skip a Oo⟩ (by dsimp only;omega)
  have o:s.fs[k].nx.toNat<s.fs.length:=by omega
  refine .at Oo o ?_;have L:wu s.fs[k].nx=((s.fs[k].nx.toNat:Nat):Int):=by rw[Xg Oo];omega
  rw[L];refine .pos Oo ?_;rw[shru (by have:=hbt.1;omega) Oo,bit_test hbt.1 Oo,shlu1 Oo];by_cases y:m.testBit s.fs[k].nx.toNat=true
  ·rw[if_pos y];refine .pos rfl ?_;exact .out (.inr ⟨rfl,λh=>UqF.not a hbt Oo Oo y h.uq⟩)
  rw[if_neg y];refine .neg Od ?_;refine .ite (λH=>?_) λH=>.out (.inr ⟨rfl,f λh=>H (h.2.2.2.2 s.fs[k].nx.toNat o Oo).1⟩);refine .ite (λq=>?_) λq=>.out (.inr ⟨rfl,f λh=>q (h.2.2.2.2 s.fs[k].nx.toNat o Oo).2⟩);have l:QcL s k s.fs[k]:=⟨g,Oo,Oo,B,λj X e=>by
   have M:j=s.fs[k].nx.toNat:=by omega
   subst M
   exact ⟨H,q⟩⟩
  exact .go ⟨k+1,m ||| 2^s.fs[k].nx.toNat,by rw[(bit_set hbt.1 Oo).1],a,hfm.step a (.inr l),hbt.set a Oo Oo,huq.set (p:=s.fs[k].nx.toNat) a hbt Oo Oo (by simpa using y)⟩ (by dsimp only;omega)
 ·obtain ⟨hfm,huq⟩:FmTo s s.fs.length/\UqF s.fs s.fs.length:=by
   rcases v with ⟨_,h⟩ | ⟨h,_⟩
   ·exact h
   ·cases h
  have d:∀ i (h:i<s.fs.length),Qfy s i s.fs[i]\/QcL s i s.fs[i]:=λi J=>hfm i J J;refine .call (straight_c s (Q2 d) Oo) ?_;exact .b (QI.trans ⟨λh=>⟨⟨b,Oo,Oo,u⟩,d,huq,h.ends (Q2 d)⟩,λh=>h.ends.str⟩)
def Asc(l:List Int):Prop:=∀ i (h:i+1<l.length),l[i]<l[i+1]
def QL(a b:Qe):Prop:=a.frm<b.frm\/(a.frm=b.frm/\a.to<b.to)
def Qe2(x:Qe):Prop:=(0<=x.frm/\x.frm<64)/\(0<=x.to/\x.to<64)/\0<x.slots.length/\(∀ h:0<x.slots.length,0<=x.slots[0])/\Asc x.slots
def Ql(l:List Qe):Prop:=(∀ x∈l,Qe2 x)/\∀ i (h:i+1<l.length),QL l[i] l[i+1]
structure Rng(x:Qe):Prop where
 f0:0<=x.frm
 f1:x.frm<64
 t0:0<=x.to
 t1:x.to<64
theorem Qe2.rng{x:Qe}(h:Qe2 x):Rng x:=⟨h.1.1,h.1.2,h.2.1.1,h.2.1.2⟩
theorem keyAt{l:List Qe}{i j b a:Nat}{g:i<l.length}{f:j<l.length}{d:b < l.length}{c:a < l.length}(e:i=b/\j=a)(h:QL l[i] l[j]):QL l[b] l[a]:=by obtain ⟨rfl,rfl⟩:=e;exact h
theorem in_c(x:Int):XR x=some (bP (0<=x/\x<64)):=by
 unfold XR;by_cases h:0<=x
 ·rw[if_pos h];exact some_b (by simp[h])
 ·rw[if_neg h];exact Qff λa=>h a.1
theorem number_c(x:Int):Jt x=some (bP (0<=x/\x<64)):=in_c x
def cmpV(a b:Qe):Int:=if a.frm=b.frm then a.to-b.to else a.frm-b.frm
theorem QgV{a b:Qe}(c:Rng a)(d:Rng b):Zk a b=some (cmpV a b):=by
 obtain ⟨e,f,g,i⟩:=c;obtain ⟨j,k,l,m⟩:=d;unfold Zk cmpV;by_cases h:a.frm=b.frm
 ·rw[if_pos h,if_pos h,Qb Oo]
 ·rw[if_neg h,if_neg h,Qb Oo]
theorem Qge{a b:Qe}(c:Rng a)(d:Rng b):cmpV a b<0<->QL a b:=by
 unfold cmpV QL;by_cases h:a.frm=b.frm
 ·rw[if_pos h];omega
 ·rw[if_neg h];omega
theorem cmpV_zero{a b:Qe}:cmpV a b=0<->a.frm=b.frm/\a.to=b.to:=by
 unfold cmpV;by_cases h:a.frm=b.frm
 ·rw[if_pos h];omega
 ·rw[if_neg h];omega
theorem before_c(a b:Qe):Z1 a b=some (bP (QL a b)):=by
 unfold Z1 QL;by_cases h:a.frm<b.frm
 ·rw[if_pos h];exact some_t (.inl h)
 rw[if_neg h];by_cases c:a.frm=b.frm
 ·rw[if_pos c];exact some_b (by rw[decide_eq_true_iff];exact ⟨λk=>.inr ⟨c,k⟩,λk=>by omega⟩)
 ·rw[if_neg c];exact Qff Oo
set_option maxHeartbeats 1000000 in
theorem sets_c(l:List Qe)(O:l.length<=4294967296)(E:∀ x∈l,x.slots.length<=4294967296):Xw l=some (bP (Ql l)):=by
 refine Gd.eq ?_;unfold Xw;refine Gd.bndR (P:=λz=>(z = .inl ()/\Ql l)\/(z = .inr false/\¬ Ql l)) ?_ (λ_ d=>?_) (λr d=>?_)
 ·refine Gd.loop (λx:Int=>∃ k:Nat,x=k/\k<=l.length/\(∀ i (h:i<l.length),i<k->Qe2 l[i])/\∀ i (h:i+1<l.length),i+1<k->QL l[i] l[i+1]) _ (λx=>l.length-x.toNat) ⟨0,rfl,WO _,λi _ h=>absurd h (WT _),λi _ h=>absurd h (WT _)⟩ ?_;rintro x ⟨k,rfl,hk,hok,hkey⟩;refine .ite (λa=>?_) λa=>.out (.inl ⟨rfl,λx F=>?_,λi h=>hkey i h Oo⟩)
  ·have a:k<l.length:=by omega
   have u:w64 ((k:Int)+1)=((k+1:Nat):Int):=Qb Oo;have F:=E _ (Wc a);have o:¬ Qe2 l[k]->¬ Ql l:=λh k=>h (k.1 _ (Wc a));refine Gd.bndR (P:=λz=>(z = .inl ()/\Qe2 l[k]/\∀ h:k-1+1<l.length,0<k->QL l[k-1] l[k-1+1])\/(z = .inr (.out (.inr false))/\¬ Ql l)) ?_ (λ_ d=>?_) (λr d=>?_)
   ·refine .atN a ?_;have p:∀ i (h:i<l.length),i<k->Rng l[i]:=λi h A=>(hok i h A).rng;refine .call (in_c _) ?_;refine .ite (λB=>?_) λB=>.some (.inr ⟨rfl,o λh=>B (Qa5 h.1)⟩);obtain ⟨f,g⟩:=QI.1 B;refine .call (in_c _) ?_;refine .ite (λC=>?_) λC=>.some (.inr ⟨rfl,o λh=>C (Qa5 h.2.1)⟩);obtain ⟨m,n⟩:=QI.1 C;have fin:(b:∀ h:k-1+1<l.length,0<k->QL l[k-1] l[k-1+1])->(q:¬ (l[k].slots.length:Int)=0)->(D:¬ l[k].slots[0]' Oo<0)->∀ z:Unit ⊕ LS Int (Unit ⊕ Bool),((z = .inl ()/\Asc l[k].slots)\/(z = .inr (.out (.inr false))/\¬ Asc l[k].slots))->(z = .inl ()/\Qe2 l[k]/\∀ h:k-1+1<l.length,0<k->QL l[k-1] l[k-1+1])\/(z = .inr (.out (.inr false))/\¬ Ql l):=λb q D z L=>by
     rcases L with ⟨rfl,h⟩ | ⟨rfl,h⟩
     ·exact .inl ⟨rfl,⟨⟨f,g⟩,⟨m,n⟩,Oo,λ_=>by omega,h⟩,b⟩
     ·exact .inr ⟨rfl,o λk=>h k.2.2.2.2⟩
    refine .ite (λD=>?_) λD=>?_
    ·have H:w64 ((k:Int)-1)=((k-1:Nat):Int):=by rw[Qb Oo];omega
     rw[H];refine .atN (show k-1<l.length by omega) ?_;refine .call (QgV (p (k-1) Oo Oo) ⟨f,g,m,n⟩) ?_;refine .ite (λt=>.some (.inr ⟨rfl,λh=>by have:=(Qge (p (k-1) Oo Oo) ⟨f,g,m,n⟩).2 (h.2 (k-1) Oo |> keyAt Oo);omega⟩)) λt=>?_;have v:QL l[k-1] l[k]:=(Qge (p (k-1) Oo Oo) ⟨f,g,m,n⟩).1 Oo;have b:∀ h:k-1+1<l.length,0<k->QL l[k-1] l[k-1+1]:=λh _=>keyAt Oo v;refine .ite (λq=>.some (.inr ⟨rfl,o λh=>by have:=h.2.2.1;omega⟩)) λq=>?_;refine .at0 (show 0<l[k].slots.length by omega) ?_;refine .ite (λe=>.some (.inr ⟨rfl,o λh=>by have:=h.2.2.2.1 Oo;omega⟩)) λe=>?_;refine Gd.mono ?_ (fin b q e);refine Gd.loop (λx:Int=>∃ i:Nat,x=i/\1<=i/\i<=l[k].slots.length/\∀ j (h:j+1<l[k].slots.length),j+1<i->l[k].slots[j]<l[k].slots[j+1]) _ (λx=>l[k].slots.length-x.toNat) ⟨1,rfl,Wl _,Oo,λj _ h=>by omega⟩ ?_;rintro x ⟨i,rfl,hi1,hi2,hasc⟩;refine .ite (λc=>?_) λc=>.out (.inl ⟨rfl,λj h=>hasc j h Oo⟩);have c:i<l[k].slots.length:=by omega
     have w:w64 ((i:Int)-1)=((i-1:Nat):Int):=by rw[Qb Oo];omega
     have y:w64 ((i:Int)+1)=((i+1:Nat):Int):=Qb Oo;rw[w,y];refine .atN c ?_;refine .atN (show i-1<_ by omega) ?_;refine .ite (λs=>.out (.inr ⟨rfl,λh=>by have:=h (i-1) Oo;simp only[show i-1+1=i by omega]at this;omega⟩)) λs=>?_;refine .go ⟨i+1,rfl,Oo,c,λj h M=>?_⟩ Oo;by_cases K:j+1=i
     ·obtain rfl:j=i-1:=by omega
      simp only[show i-1+1=i by omega];omega
     ·exact hasc j h Oo
    ·have b:∀ h:k-1+1<l.length,0<k->QL l[k-1] l[k-1+1]:=λh N=>absurd N Oo;refine .ite (λq=>.some (.inr ⟨rfl,o λh=>by have:=h.2.2.1;omega⟩)) λq=>?_;refine .at0 (show 0<l[k].slots.length by omega) ?_;refine .ite (λe=>.some (.inr ⟨rfl,o λh=>by have:=h.2.2.2.1 Oo;omega⟩)) λe=>?_;refine Gd.mono ?_ (fin b q e);refine Gd.loop (λx:Int=>∃ i:Nat,x=i/\1<=i/\i<=l[k].slots.length/\∀ j (h:j+1<l[k].slots.length),j+1<i->l[k].slots[j]<l[k].slots[j+1]) _ (λx=>l[k].slots.length-x.toNat) ⟨1,rfl,Wl _,Oo,λj _ h=>by omega⟩ ?_;rintro x ⟨i,rfl,hi1,hi2,hasc⟩;refine .ite (λc=>?_) λc=>.out (.inl ⟨rfl,λj h=>hasc j h Oo⟩);have c:i<l[k].slots.length:=by omega
     have w:w64 ((i:Int)-1)=((i-1:Nat):Int):=by rw[Qb Oo];omega
     have y:w64 ((i:Int)+1)=((i+1:Nat):Int):=Qb Oo;rw[w,y];refine .atN c ?_;refine .atN (show i-1<_ by omega) ?_;refine .ite (λs=>.out (.inr ⟨rfl,λh=>by have:=h (i-1) Oo;simp only[show i-1+1=i by omega]at this;omega⟩)) λs=>?_;refine .go ⟨i+1,rfl,Oo,c,λj h M=>?_⟩ Oo;by_cases K:j+1=i
     ·obtain rfl:j=i-1:=by omega
      simp only[show i-1+1=i by omega];omega
     ·exact hasc j h Oo
   ·rcases d with ⟨_,I,J⟩ | ⟨h,_⟩
    ·rw[u];refine .go ⟨k+1,rfl,a,λi h c=>?_,λi h c=>?_⟩ Oo
     ·by_cases G:i=k
      ·subst G;exact I
      ·exact hok i h Oo
     ·by_cases G:i+1=k
      ·obtain rfl:i=k-1:=by omega
       exact J h Oo
      ·exact hkey i h Oo
    ·cases h
   ·rcases d with ⟨h,_⟩ | ⟨h,d⟩
    ·cases h
    ·injection h with h;subst h;exact .inr ⟨rfl,d⟩
  ·obtain ⟨i,c,rfl⟩:=WL.1 F;exact hok i c Oo
 ·rcases d with ⟨_,h⟩ | ⟨h,_⟩
  ·exact .t h
  ·cases h
 ·rcases d with ⟨h,_⟩ | ⟨h,d⟩
  ·cases h
  ·injection h with h;rw[h,Qfm d]
set_option maxHeartbeats 1000000 in
theorem rsets_c(l:List Qe)(O:l.length<=4294967296)(D:∀ x∈l,x.slots.length<=4294967296):Qaf l=some (bP (Ql l)):=by
 refine Gd.eq ?_;unfold Qaf;refine Gd.bndR (P:=λz=>(z = .inl ()/\Ql l)\/(z = .inr false/\¬ Ql l)) ?_ (λ_ d=>?_) (λr d=>?_)
 ·refine Gd.loop (λx:Int=>∃ k:Nat,x=k/\k<=l.length/\(∀ i (h:i<l.length),i<k->Qe2 l[i])/\∀ i (h:i+1<l.length),i+1<k->QL l[i] l[i+1]) _ (λx=>l.length-x.toNat) ⟨0,rfl,WO _,λi _ h=>absurd h (WT _),λi _ h=>absurd h (WT _)⟩ ?_;rintro x ⟨k,rfl,hk,hok,hkey⟩;refine .ite (λa=>?_) λa=>.out (.inl ⟨rfl,λx E=>?_,λi h=>hkey i h Oo⟩)
  ·have a:k<l.length:=by omega
   have o:w64 ((k:Int)+1)=((k+1:Nat):Int):=Qb Oo;have E:=D _ (Wc a);have g:¬ Qe2 l[k]->¬ Ql l:=λh k=>h (k.1 _ (Wc a));refine Gd.bndR (P:=λz=>(z = .inl ()/\Qe2 l[k]/\∀ h:k-1+1<l.length,0<k->QL l[k-1] l[k-1+1])\/(z = .inr (.out (.inr false))/\¬ Ql l)) ?_ (λ_ d=>?_) (λr d=>?_)
   ·refine .atN a ?_;have G:∀ i (h:i<l.length),i<k->Rng l[i]:=λi h y=>(hok i h y).rng;refine .call (number_c _) ?_;refine .ite (λA=>?_) λA=>.some (.inr ⟨rfl,g λh=>A (Qa5 h.1)⟩);obtain ⟨t,u⟩:=QI.1 A;refine .call (number_c _) ?_;refine .ite (λB=>?_) λB=>.some (.inr ⟨rfl,g λh=>B (Qa5 h.2.1)⟩);obtain ⟨v,w⟩:=QI.1 B;have fin:(b:∀ h:k-1+1<l.length,0<k->QL l[k-1] l[k-1+1])->(m:¬ (l[k].slots.length:Int)=0)->(C:¬ l[k].slots[0]' Oo<0)->∀ z:Unit ⊕ LS Int (Unit ⊕ Bool),((z = .inl ()/\Asc l[k].slots)\/(z = .inr (.out (.inr false))/\¬ Asc l[k].slots))->(z = .inl ()/\Qe2 l[k]/\∀ h:k-1+1<l.length,0<k->QL l[k-1] l[k-1+1])\/(z = .inr (.out (.inr false))/\¬ Ql l):=λb m C z L=>by
     rcases L with ⟨rfl,h⟩ | ⟨rfl,h⟩
     ·exact .inl ⟨rfl,⟨⟨t,u⟩,⟨v,w⟩,Oo,λ_=>by omega,h⟩,b⟩
     ·exact .inr ⟨rfl,g λk=>h k.2.2.2.2⟩
    refine .ite (λC=>?_) λC=>?_
    ·have H:w64 ((k:Int)-1)=((k-1:Nat):Int):=by rw[Qb Oo];omega
     rw[H];refine .atN (show k-1<l.length by omega) ?_;refine .call (before_c _ _) ?_;refine .ite (λe=>?_) λe=>.some (.inr ⟨rfl,λh=>e (Qa5 (h.2 (k-1) Oo |> keyAt Oo))⟩);have p:QL l[k-1] l[k]:=QI.1 e;have b:∀ h:k-1+1<l.length,0<k->QL l[k-1] l[k-1+1]:=λh _=>keyAt Oo p;refine .ite (λm=>.some (.inr ⟨rfl,g λh=>by have:=h.2.2.1;omega⟩)) λm=>?_;refine .at0 (show 0<l[k].slots.length by omega) ?_;refine .ite (λf=>.some (.inr ⟨rfl,g λh=>by have:=h.2.2.2.1 Oo;omega⟩)) λf=>?_;refine Gd.mono ?_ (fin b m f);refine Gd.loop (λx:Int=>∃ i:Nat,x=i/\1<=i/\i<=l[k].slots.length/\∀ j (h:j+1<l[k].slots.length),j+1<i->l[k].slots[j]<l[k].slots[j+1]) _ (λx=>l[k].slots.length-x.toNat) ⟨1,rfl,Wl _,Oo,λj _ h=>by omega⟩ ?_;rintro x ⟨i,rfl,hi1,hi2,hasc⟩;refine .ite (λc=>?_) λc=>.out (.inl ⟨rfl,λj h=>hasc j h Oo⟩);have c:i<l[k].slots.length:=by omega
     have q:w64 ((i:Int)-1)=((i-1:Nat):Int):=by rw[Qb Oo];omega
     have s:w64 ((i:Int)+1)=((i+1:Nat):Int):=Qb Oo;rw[q,s];refine .atN (show i-1<_ by omega) ?_;refine .atN c ?_;refine .ite (λn=>.out (.inr ⟨rfl,λh=>by have:=h (i-1) Oo;simp only[show i-1+1=i by omega]at this;omega⟩)) λn=>?_;refine .go ⟨i+1,rfl,Oo,c,λj h M=>?_⟩ Oo;by_cases K:j+1=i
     ·obtain rfl:j=i-1:=by omega
      simp only[show i-1+1=i by omega];omega
     ·exact hasc j h Oo
    ·have b:∀ h:k-1+1<l.length,0<k->QL l[k-1] l[k-1+1]:=λh N=>absurd N Oo;refine .ite (λm=>.some (.inr ⟨rfl,g λh=>by have:=h.2.2.1;omega⟩)) λm=>?_;refine .at0 (show 0<l[k].slots.length by omega) ?_;refine .ite (λf=>.some (.inr ⟨rfl,g λh=>by have:=h.2.2.2.1 Oo;omega⟩)) λf=>?_;refine Gd.mono ?_ (fin b m f);refine Gd.loop (λx:Int=>∃ i:Nat,x=i/\1<=i/\i<=l[k].slots.length/\∀ j (h:j+1<l[k].slots.length),j+1<i->l[k].slots[j]<l[k].slots[j+1]) _ (λx=>l[k].slots.length-x.toNat) ⟨1,rfl,Wl _,Oo,λj _ h=>by omega⟩ ?_;rintro x ⟨i,rfl,hi1,hi2,hasc⟩;refine .ite (λc=>?_) λc=>.out (.inl ⟨rfl,λj h=>hasc j h Oo⟩);have c:i<l[k].slots.length:=by omega
     have q:w64 ((i:Int)-1)=((i-1:Nat):Int):=by rw[Qb Oo];omega
     have s:w64 ((i:Int)+1)=((i+1:Nat):Int):=Qb Oo;rw[q,s];refine .atN (show i-1<_ by omega) ?_;refine .atN c ?_;refine .ite (λn=>.out (.inr ⟨rfl,λh=>by have:=h (i-1) Oo;simp only[show i-1+1=i by omega]at this;omega⟩)) λn=>?_;refine .go ⟨i+1,rfl,Oo,c,λj h M=>?_⟩ Oo;by_cases K:j+1=i
     ·obtain rfl:j=i-1:=by omega
      simp only[show i-1+1=i by omega];omega
     ·exact hasc j h Oo
   ·rcases d with ⟨_,I,J⟩ | ⟨h,_⟩
    ·rw[o];refine .go ⟨k+1,rfl,a,λi h c=>?_,λi h c=>?_⟩ Oo
     ·by_cases F:i=k
      ·subst F;exact I
      ·exact hok i h Oo
     ·by_cases F:i+1=k
      ·obtain rfl:i=k-1:=by omega
       exact J h Oo
      ·exact hkey i h Oo
    ·cases h
   ·rcases d with ⟨h,_⟩ | ⟨h,d⟩
    ·cases h
    ·injection h with h;subst h;exact .inr ⟨rfl,d⟩
  ·obtain ⟨i,c,rfl⟩:=WL.1 E;exact hok i c Oo
 ·rcases d with ⟨_,h⟩ | ⟨h,_⟩
  ·exact .t h
  ·cases h
 ·rcases d with ⟨h,_⟩ | ⟨h,d⟩
  ·cases h
  ·injection h with h;rw[h,Qfm d]
theorem QbO{α:Type}{p:α->Bool}:∀ {l:List α} {i:Nat},i<=l.length->(∀ j (h:j<l.length),j<i->p l[j]=false)->(∀ h:i<l.length,p l[i]=true)->l.findIdx p=i
 | [],i,hi,_,_=>by simp at hi;subst hi;rfl
 | x :: l,0,_,_,h2=>by have:p x=true:=h2 Os;rw[List.findIdx_cons,this];rfl
 | x :: l,i+1,hi,h1,h2=>by
  have a:p x=false:=h1 0 Os Oo;have:=QbO (p:=p) (l:=l) (i:=i) (by simpa using hi) (λj h b=>by
   have:=h1 (j+1) (by simpa using h) Oo
   simpa using this) (λh=>by
   have:=h2 (by simpa using h)
   simpa using this)
  rw[List.findIdx_cons,a,this];rfl
theorem findIdx_le{α:Type}(p:α->Bool)(l:List α):l.findIdx p<=l.length:=List.findIdx_le_length
def JX(l:List Qe)(t:Qe):Nat:=l.findIdx λx=>!bP (QL x t)
def QbW(l:List Int)(s:Int):Nat:=l.findIdx λx=>!bP (x<s)
theorem QL.trans{a b c:Qe}(h:QL a b)(k:QL b c):QL a c:=by unfold QL at *;omega
theorem QL.irrefl{a:Qe}(h:QL a a):False:=by unfold QL at h;omega
theorem adj_all{α:Type}{R:α->α->Prop}(f:∀ {a b c},R a b->R b c->R a c){l:List α}(h:∀ i (h:i+1<l.length),R l[i] l[i+1]):∀ (d i:Nat) (e:i+d+1<l.length),R (l[i]' Oo) l[i+d+1]
 | 0,i,e=>h i e
 | d+1,i,e=>f (b:=l[i+d+1]' Oo) (adj_all (l:=l) @f h d i Oo) (h (i+d+1) e)
theorem Ql.lt{l:List Qe}(h:Ql l){i j:Nat}(a:i<j)(b:j<l.length):QL (l[i]' Oo) l[j]:=by obtain ⟨d,rfl⟩:∃ d,j=i+d+1:=⟨j-i-1,Oo⟩;exact adj_all (R:=QL) QL.trans h.2 d i b
theorem Asc.lt{l:List Int}(h:Asc l){i j:Nat}(c:i<j)(e:j<l.length):l[i]' Oo<l[j]:=by obtain ⟨d,rfl⟩:∃ d,j=i+d+1:=⟨j-i-1,Oo⟩;exact adj_all (R:=λa b:Int=>a<b) (λa b=>by omega) h d i e
theorem posK_of{l:List Qe}{t:Qe}{i:Nat}(c:i<=l.length)(b:∀ j (h:j<l.length),j<i->QL l[j] t)(d:∀ h:i<l.length,¬ QL l[i] t):JX l t=i :=
 QbO c (λj h a=>by rw[Qa5 (b j h a)];rfl) λh=>by rw[Qfm (d h)];rfl
theorem posI_of{l:List Int}{s:Int}{i:Nat}(c:i<=l.length)(b:∀ j (h:j<l.length),j<i->l[j]<s)(d:∀ h:i<l.length,¬ l[i]<s):QbW l s=i :=
 QbO c (λj h a=>by rw[Qa5 (b j h a)];rfl) λh=>by rw[Qfm (d h)];rfl
theorem QeM(l:List Qe)(t:Qe):JX l t<=l.length:=findIdx_le _ _
theorem QeN(l:List Int)(s:Int):QbW l s<=l.length:=findIdx_le _ _
theorem mid{i j:Nat}(h:i+j<=9223372036854775807):w64 (QbV .u64 (wu (w64 ((i:Int)+(j:Int)))) 1)=(((i+j)/2:Nat):Int):=by rw[Qb (n:=(i:Int)+(j:Int)) Oo,Xg Oo];have:=shru (a:=(i:Int)+(j:Int)) (j:=1) Oo Oo;rw[show ((1:Nat):Int)=1 from rfl]at this;rw[this,Qb Oo];omega
theorem find_c{l:List Qe}(o:Ql l)(p:l.length<=4294967296){t:Qe}(g:Rng t):Qw l t=some (((JX l t:Nat):Int),bP (∃ h:JX l t<l.length,l[JX l t].frm=t.frm/\l[JX l t].to=t.to)):=by
 refine Gd.eq ?_;unfold Qw;have e:∀ i (h:i<l.length),Rng l[i]:=λi h=>(o.1 _ (Wc h)).rng;refine Gd.bind (P:=λb:Int=>b=(JX l t:Nat)) ?_ λb r=>?_
 ·refine Gd.loop (λx:Int×Int=>∃ i j:Nat,x=((i:Int),(j:Int))/\i<=j/\j<=l.length/\(∀ a (h:a<l.length),a<i->QL l[a] t)/\∀ a (h:a<l.length),j<=a->¬ QL l[a] t) _ (λx=>(x.2-x.1).toNat) ⟨0,l.length,rfl,WO _,Wl _,λa _ h=>absurd h (WT _),λa h k=>by omega⟩ ?_;rintro x ⟨i,j,rfl,hij,hj,h1,h2⟩;dsimp only;refine .ite (λn=>?_) λn=>.out (by rw[posK_of (i:=i) Oo h1 λh=>h2 i h Oo]);rw[mid Oo];have d:(i+j)/2<l.length:=by omega
  have q:w64 ((((i+j)/2:Nat):Int)+1)=(((i+j)/2+1:Nat):Int):=Qb Oo;rw[q];refine .atN d ?_;refine .call (QgV (e _ d) g) ?_;refine .ite (λc=>?_) λc=>?_
  ·have c:=(Qge (e _ d) g).1 c;refine .go ⟨(i+j)/2+1,j,rfl,Oo,hj,λa h s=>?_,h2⟩ (by dsimp only;omega);by_cases m:a=(i+j)/2
   ·subst m;exact c
   ·exact (o.lt (show a<(i+j)/2 by omega) d).trans c
  ·have c:¬ QL l[(i+j)/2] t:=λh=>c ((Qge (e _ d) g).2 h);refine .go ⟨i,(i+j)/2,rfl,Oo,Oo,h1,λa h s k=>?_⟩ (by dsimp only;omega);by_cases m:a=(i+j)/2
   ·subst m;exact c k
   ·exact c ((o.lt (show (i+j)/2<a by omega) h).trans k)
 ·subst r;refine .ite (λh=>?_) λh=>.some (by rw[Qfm (λk=>by obtain ⟨k,_⟩:=k;omega)]);have h:JX l t<l.length:=by omega
  refine .atN h ?_;refine .call (QgV (e _ h) g) ?_;refine .some (congrArg _ ?_);by_cases f:cmpV l[JX l t] t=0
  ·rw[Qa5 ⟨h,cmpV_zero.1 f⟩];exact decide_eq_true f
  ·rw[Qfm λ⟨_,k⟩=>f (cmpV_zero.2 k)];exact decide_eq_false f
theorem less_c(a b:Int):Jy a b=some (decide (a<b)):=by unfold Jy X8;simp
theorem bs_c{l:List Int}(m:Asc l)(n:l.length<=4294967296)(t:Int):QJ l t=some (((QbW l t:Nat):Int),bP (∃ h:QbW l t<l.length,l[QbW l t]=t)):=by
 refine Gd.eq ?_;unfold QJ;refine Gd.bind (P:=λb:Int=>b=(QbW l t:Nat)) ?_ λb p=>?_
 ·refine Gd.loop (λx:Int×Int=>∃ i j:Nat,x=((i:Int),(j:Int))/\i<=j/\j<=l.length/\(∀ a (h:a<l.length),a<i->l[a]<t)/\∀ a (h:a<l.length),j<=a->¬ l[a]<t) _ (λx=>(x.2-x.1).toNat) ⟨0,l.length,rfl,WO _,Wl _,λa _ h=>absurd h (WT _),λa h k=>by omega⟩ ?_;rintro x ⟨i,j,rfl,hij,hj,h1,h2⟩;dsimp only;refine .ite (λe=>?_) λe=>.out (by rw[posI_of (i:=i) Oo h1 λh=>h2 i h Oo]);rw[mid Oo];have g:(i+j)/2<l.length:=by omega
  have o:w64 ((((i+j)/2:Nat):Int)+1)=(((i+j)/2+1:Nat):Int):=Qb Oo;rw[o];refine .atN g ?_;refine .call (less_c _ _) ?_;refine .ite (λc=>?_) λc=>?_
  ·have c:=of_decide_eq_true c;refine .go ⟨(i+j)/2+1,j,rfl,Oo,hj,λa h q=>?_,h2⟩ (by dsimp only;omega);by_cases d:a=(i+j)/2
   ·subst d;exact c
   ·have:=m.lt (show a<(i+j)/2 by omega) g;omega
  ·have c:¬ l[(i+j)/2]<t:=λh=>c (decide_eq_true h);refine .go ⟨i,(i+j)/2,rfl,Oo,Oo,h1,λa h q k=>?_⟩ (by dsimp only;omega);by_cases d:a=(i+j)/2
   ·subst d;exact c k
   ·have:=m.lt (show (i+j)/2<a by omega) h;omega
 ·subst p;refine .ite (λh=>?_) λh=>.some (by rw[Qfm (λk=>by obtain ⟨k,_⟩:=k;omega)]);have h:QbW l t<l.length:=by omega
  refine .atN h ?_;refine .ite (λf=>.some (by rw[Qa5 ⟨h,f⟩])) λf=>?_;refine .call (show Zf _=some false by unfold Zf;simp) ?_;refine .neg Od ?_;exact .some (by rw[Qfm λ⟨_,k⟩=>f k])
theorem rcopy_c(l:List Qe)(g:l.length<=1000000)(e:∀ x∈l,x.slots.length<=4294967296):Xf l=some l:=by
 refine Gd.eq ?_;unfold Xf;refine Gd.bind (P:=λb=>b=l) ?_ λb d=>.some d;refine Gd.loop (λx:List Qe×Int=>∃ k:Nat,x=(l.take k,(k:Int))/\k<=l.length) _ (λx=>l.length-x.2.toNat) ⟨0,rfl,WO _⟩ ?_;rintro x ⟨k,rfl,hk⟩;dsimp only;refine .ite (λa=>?_) λa=>.out (WD Oo);have a:k<l.length:=by omega
 have f:=e _ (Wc a);refine .atN a ?_;refine .pos ⟨Oo,Oo⟩ ?_;rw[Wf,WJ];refine .pos ⟨Oo,Oo⟩ ?_;have c:w64 ((k:Int)+1)=((k+1:Nat):Int):=Qb Oo;rw[c];exact .go ⟨k+1,by rw[Vb a],a⟩ (by dsimp only;omega)
theorem clone_c(l:List Qe)(b:l.length<=1000000)(a:∀ x∈l,x.slots.length<=4294967296):QbL l=some l:=rcopy_c l b a
def Qcd(l:List Int)(s:Int):List Int:=open Classical in if ∃ h:QbW l s<l.length,l[QbW l s]=s then l else l.insertIdx (QbW l s) s
def putK(l:List Qe)(f t s:Int):List Qe:=open Classical in if h:∃ h:JX l ⟨f,t,[]⟩ < l.length,l[JX l ⟨f,t,[]⟩].frm=f/\l[JX l ⟨f,t,[]⟩].to=t then l.set (JX l ⟨f,t,[]⟩) ⟨f,t,Qcd (l[JX l ⟨f,t,[]⟩]'h.1).slots s⟩ else l.insertIdx (JX l ⟨f,t,[]⟩) ⟨f,t,[s]⟩
theorem ins_eq{α:Type}(l:List α)(i:Nat)(x:α):l.insertIdx i x=if i<=l.length then l.take i++[x]++l.drop i else l:=by
 by_cases h:i<=l.length
 ·rw[if_pos h];induction l generalizing i with
  | nil =>
    obtain rfl:i=0:=by simpa using h
    rfl
  | cons a l ih =>
   cases i with
   | zero=>rfl
   | succ i=>rw[List.insertIdx_succ_cons,ih i (by simpa using h)];rfl
 ·rw[if_neg h,List.insertIdx_of_length_lt Oo]
theorem rset_eta{x:Qe}{f t:Int}(b:x.frm=f)(a:x.to=t):(⟨f,t,x.slots⟩:Qe)=x:=by subst b a;rfl
theorem mk_eq{a b f t:Int}{y:List Int}(h:a=f)(k:b=t):Qe.mk a b y=⟨f,t,y⟩:=by rw[h,k]
theorem insert_c{l:List Qe}(u:l.length<=100000)(p:∀ x∈l,x.slots.length<=100000)(f t s:Int) :
  XS l f t s=some (open Classical in if Ql l/\(0<=f/\f<64)/\(0<=t/\t<64)/\0<=s then(putK l f t s,0) else([],1)):=by
 refine Gd.eq ?_;unfold XS;refine .call (sets_c l Oo λx j=>by have:=p x j;omega) ?_;refine .ite (λk=>?_) λk=>.some (by rw[if_neg λh=>k (Qa5 h.1)]);have b:=QI.1 k;refine .call (in_c _) ?_;refine .ite (λm=>?_) λm=>.some (by rw[if_neg λh=>m (Qa5 h.2.1)]);have e:=QI.1 m;refine .call (in_c _) ?_;refine .ite (λn=>?_) λn=>.some (by rw[if_neg λh=>n (Qa5 h.2.2.1)]);have g:=QI.1 n;refine .ite (λy=>.some (by rw[if_neg λh=>by omega])) λy=>?_;rw[if_pos ⟨b,e,g,Oo⟩];refine .call (clone_c l Oo λx j=>by have:=p x j;omega) ?_;refine .call (a:=(((JX l ⟨f,t,[]⟩:Nat):Int),bP (∃ h:JX l ⟨f,t,[]⟩ < l.length,l[JX l ⟨f,t,[]⟩].frm=f/\l[JX l ⟨f,t,[]⟩].to=t))) (by
  unfold Qa8
  rw[find_c b Oo (t:=⟨f,t,[]⟩) ⟨e.1,e.2,g.1,g.2⟩]
  rfl) ?_
 dsimp only;have v:=QeM l ⟨f,t,[]⟩;unfold putK;refine .ite (λd=>?_) λd=>?_
 ·have d:=QI.1 d;rw[dif_pos d];obtain ⟨c,q,r⟩:=d;have i:=b.1 _ (Wc c);have w:=p _ (Wc c);refine .atN c ?_;refine .call (bs_c i.2.2.2.2 Oo s) ?_;dsimp only;unfold Qcd;refine .ite (λo=>?_) λo=>?_
  ·rw[if_pos (QI.1 o)];refine .some (congrArg (λx=>(x,(0:Int))) ?_);rw[rset_eta q r,YX]
  ·rw[if_neg λh=>o (Qa5 h)];have z:=QeN l[JX l ⟨f,t,[]⟩].slots s;refine .call (a:=l[JX l ⟨f,t,[]⟩].slots.insertIdx (QbW l[JX l ⟨f,t,[]⟩].slots s) s) (by
    unfold Qav insF
    dsimp only
    rw[if_pos ⟨Oo,Oo,Oo⟩,Wd]) ?_
   rw[Wd];exact .some (congrArg (λx=>(l.set _ x,(0:Int))) (mk_eq q r))
 ·rw[dif_neg λh=>d (Qa5 h)];refine .call (a:=l.insertIdx (JX l ⟨f,t,[]⟩) ⟨f,t,[s]⟩) (by
    unfold insF
    dsimp only
    rw[if_pos ⟨Oo,Oo,Oo⟩,Wd]) ?_
  exact .some rfl
theorem with_c{l:List Int}(r:Asc l)(f:l.length<=100000)(s:Int):JM l s=some (Qcd l s):=by
  refine Gd.eq ?_;unfold JM;refine Gd.bind (P:=λb:Int=>b=(QbW l s:Nat)) ?_ λb o=>?_
  · refine Gd.loop (λx:Int=>∃ i:Nat,x=i/\i<=l.length/\∀ a (h:a<l.length),a<i->l[a]<s) _ (λx=>l.length-x.toNat) ⟨0,rfl,WO _,λa _ h=>absurd h (WT _)⟩ ?_
    rintro x ⟨i,rfl,hi,h1⟩
    refine .ite (λc=>?_) λc=>.out (by rw[posI_of hi h1 λh=>by omega])
    have c:i<l.length:=by omega
    have g:w64 ((i:Int)+1)=((i+1:Nat):Int):=Qb Oo
    refine .atN c ?_
    rw[g]
    refine .ite (λd=>?_) λd=>.out (by rw[posI_of hi h1 λ_=>d])
    refine .go ⟨i+1,rfl,c,λa h q=>?_⟩ Oo
    by_cases n:a=i
    · subst n;exact d
    · exact h1 a h Oo
  · subst o
    have j:=QeN l s
    unfold Qcd
    have m:(l.take (QbW l s)).length=QbW l s:=by rw[Wf];omega
    have fin:∀ {G:List Int->Prop},G (l.insertIdx (QbW l s) s)->Gd G (if (0:Int)<=0/\(0:Int)<=(QbW l s:Nat)/\((QbW l s:Nat):Int)<=l.length then
       if (((l.take (Int.toNat (QbW l s:Nat))).drop (Int.toNat 0)).length:Int)*8<=140737488355328/\(((l.take (Int.toNat (QbW l s:Nat))).drop (Int.toNat 0)).length:Int)<=9223372036854775807 then
       if ((((l.take (Int.toNat (QbW l s:Nat))).drop (Int.toNat 0)).length:Int)+[s].length)*8<=140737488355328/\(((l.take (Int.toNat (QbW l s:Nat))).drop (Int.toNat 0)).length:Int)+[s].length<=9223372036854775807 then
       if (0:Int)<=(QbW l s:Nat)/\((QbW l s:Nat):Int)<=(l.length:Int)/\(l.length:Int)<=l.length then
       if (((((l.take (Int.toNat (QbW l s:Nat))).drop (Int.toNat 0))++[s]).length:Int)+((l.take (Int.toNat (l.length:Int))).drop (Int.toNat (QbW l s:Nat))).length)*8<=140737488355328/\((((l.take (Int.toNat (QbW l s:Nat))).drop (Int.toNat 0))++[s]).length:Int)+((l.take (Int.toNat (l.length:Int))).drop (Int.toNat (QbW l s:Nat))).length<=9223372036854775807 then
       some ((((l.take (Int.toNat (QbW l s:Nat))).drop (Int.toNat 0))++[s])++((l.take (Int.toNat (l.length:Int))).drop (Int.toNat (QbW l s:Nat))))
       else none else none else none else none else none):=λp=>by
      rw[Wd,show (0:Int).toNat=0 from rfl,UN,Wd,WQ,We,Wv,m]
      simp only[W3,VN]
      refine .pos ⟨Oo,Oo,Oo⟩ (.pos ⟨Oo,Oo⟩ (.pos ⟨Oo,Oo⟩ (.pos ⟨Oo,Oo,Oo⟩ (.pos ⟨Oo,Oo⟩ (.some ?_)))))
      have:=ins_eq l (QbW l s) s
      rw[if_pos j]at this
      rw[<- this]
      exact p
    refine .ite (λh=>?_) λh=>?_
    · have h:QbW l s<l.length:=by omega
      refine .atN h ?_
      refine .ite (λe=>.some (by rw[if_pos ⟨h,e⟩])) λe=>?_
      rw[if_neg λ⟨_,k⟩=>e k]
      exact fin rfl
    · rw[if_neg λ⟨k,_⟩=>h Oo]
      exact fin rfl
theorem put_c{l:List Qe}(B:Ql l)(o:l.length<=100000)(n:∀ x∈l,x.slots.length<=100000)(f t s:Int):Qaz l f t s=some (putK l f t s):=by
  refine Gd.eq ?_;unfold Qaz;refine Gd.bind (P:=λb:Int=>b=(JX l ⟨f,t,[]⟩:Nat)) ?_ λb y=>?_
  · refine Gd.loop (λx:Int=>∃ i:Nat,x=i/\i<=l.length/\∀ a (h:a<l.length),a<i->QL l[a] ⟨f,t,[]⟩) _ (λx=>l.length-x.toNat) ⟨0,rfl,WO _,λa _ h=>absurd h (WT _)⟩ ?_
    rintro x ⟨i,rfl,hi,h1⟩
    refine .ite (λc=>?_) λc=>.out (by rw[posK_of hi h1 λh=>by omega])
    have c:i<l.length:=by omega
    have q:w64 ((i:Int)+1)=((i+1:Nat):Int):=Qb Oo
    refine .atN c ?_
    refine .call (before_c _ _) ?_
    rw[q]
    refine .ite (λm=>?_) λm=>.out (by rw[posK_of hi h1 λ_ k=>m (Qa5 k)])
    refine .go ⟨i+1,rfl,c,λa h C=>?_⟩ Oo
    by_cases v:a=i
    · subst v;exact QI.1 m
    · exact h1 a h Oo
  · subst y
    refine .call (rcopy_c l Oo λx z=>by have:=n x z;omega) ?_
    have r:=QeM l ⟨f,t,[]⟩
    have u:(l.take (JX l ⟨f,t,[]⟩)).length=JX l ⟨f,t,[]⟩:=by rw[Wf];omega
    have fin:∀ {G:List Qe->Prop},G (l.insertIdx (JX l ⟨f,t,[]⟩) ⟨f,t,[s]⟩)->Gd G (if (0:Int)<=(JX l ⟨f,t,[]⟩:Nat)/\((JX l ⟨f,t,[]⟩:Nat):Int)<=l.length then
       if (((l.take (Int.toNat (l.length:Int))).drop (Int.toNat (JX l ⟨f,t,[]⟩:Nat))).length:Int)*40<=140737488355328/\(((l.take (Int.toNat (l.length:Int))).drop (Int.toNat (JX l ⟨f,t,[]⟩:Nat))).length:Int)<=9223372036854775807 then
       if (0:Int)<=(JX l ⟨f,t,[]⟩:Nat)/\((JX l ⟨f,t,[]⟩:Nat):Int)<=l.length then
       if (((l.take (Int.toNat (JX l ⟨f,t,[]⟩:Nat))).length:Int)+[Qe.mk f t [s]].length)*40<=140737488355328/\((l.take (Int.toNat (JX l ⟨f,t,[]⟩:Nat))).length:Int)+[Qe.mk f t [s]].length<=9223372036854775807 then
       if ((((l.take (Int.toNat (JX l ⟨f,t,[]⟩:Nat)))++[Qe.mk f t [s]]).length:Int)+((l.take (Int.toNat (l.length:Int))).drop (Int.toNat (JX l ⟨f,t,[]⟩:Nat))).length)*40<=140737488355328/\(((l.take (Int.toNat (JX l ⟨f,t,[]⟩:Nat)))++[Qe.mk f t [s]]).length:Int)+((l.take (Int.toNat (l.length:Int))).drop (Int.toNat (JX l ⟨f,t,[]⟩:Nat))).length<=9223372036854775807 then
       some (((l.take (Int.toNat (JX l ⟨f,t,[]⟩:Nat)))++[Qe.mk f t [s]])++((l.take (Int.toNat (l.length:Int))).drop (Int.toNat (JX l ⟨f,t,[]⟩:Nat))))
       else none else none else none else none else none):=λA=>by
      rw[Wd,Wd,WQ,We,Wv,u]
      simp only[W3,VN]
      refine .pos ⟨Oo,Oo⟩ (.pos ⟨Oo,Oo⟩ (.pos ⟨Oo,Oo⟩ (.pos ⟨Oo,Oo⟩ (.pos ⟨Oo,Oo⟩ (.some ?_)))))
      have:=ins_eq l (JX l ⟨f,t,[]⟩) ⟨f,t,[s]⟩
      rw[if_pos r]at this
      rw[<- this]
      exact A
    unfold putK
    refine .ite (λh=>?_) λh=>?_
    · have h:JX l ⟨f,t,[]⟩ < l.length:=by omega
      have g:¬ QL l[JX l ⟨f,t,[]⟩] ⟨f,t,[]⟩:=λk=>by
        have:=Ys (p:=λx=>!bP (QL x ⟨f,t,[]⟩)) (xs:=l) (w:=h)
        simp only[VF]at this
        have e:bP (QL l[JX l ⟨f,t,[]⟩] ⟨f,t,[]⟩)=false:=this
        rw[Qa5 k]at e
        cases e
      refine .atN h ?_
      refine .call (before_c _ _) ?_
      refine .ite (λd=>?_) λd=>?_
      · have d:=QI.1 d
        rw[dif_neg λ⟨_,D,E⟩=>by unfold QL at d;dsimp only at d;omega]
        exact fin rfl
      · have d:¬ QL ⟨f,t,[]⟩ l[JX l ⟨f,t,[]⟩]:=λk=>d (Qa5 k)
        have j:l[JX l ⟨f,t,[]⟩].frm=f/\l[JX l ⟨f,t,[]⟩].to=t:=by unfold QL at d g;dsimp only at d g;omega
        rw[dif_pos ⟨h,j⟩]
        refine .call (with_c (B.1 _ (Wc h)).2.2.2.2 (n _ (Wc h)) s) ?_
        refine .atN h ?_
        rw[Wd]
        exact .some (congrArg (λx=>l.set _ x) (mk_eq j.1 j.2))
    · rw[dif_neg λ⟨k,_⟩=>h Oo]
      exact fin rfl
theorem same_ints_c(l:List Int)(h:l.length<=4294967296):Xs l l=some true:=by
 refine Gd.eq ?_;unfold Xs;refine .pos rfl ?_;refine Gd.bndR (P:=λz=>z = .inl ()) ?_ (λ_ _=>.some rfl) (λr h=>by cases h);refine Gd.loop (λx:Int=>∃ k:Nat,x=k/\k<=l.length) _ (λx=>l.length-x.toNat) ⟨0,rfl,WO _⟩ ?_;rintro x ⟨k,rfl,hk⟩;refine .ite (λa=>?_) λa=>.out rfl;have a:k<l.length:=by omega
 have b:w64 ((k:Int)+1)=((k+1:Nat):Int):=Qb Oo;rw[b];exact .atN a (.atN a (.pos rfl (.go ⟨k+1,rfl,a⟩ Oo)))
theorem same_c(l:List Qe)(c:l.length<=4294967296)(h:∀ x∈l,x.slots.length<=4294967296):XV l l=some true:=by
 refine Gd.eq ?_;unfold XV;refine .pos rfl ?_;refine Gd.bndR (P:=λz=>z = .inl ()) ?_ (λ_ _=>.some rfl) (λr h=>by cases h);refine Gd.loop (λx:Int=>∃ k:Nat,x=k/\k<=l.length) _ (λx=>l.length-x.toNat) ⟨0,rfl,WO _⟩ ?_;rintro x ⟨k,rfl,hk⟩;refine .ite (λa=>?_) λa=>.out rfl;have a:k<l.length:=by omega
 have b:w64 ((k:Int)+1)=((k+1:Nat):Int):=Qb Oo;rw[b];exact .atN a (.atN a (.pos rfl (.pos rfl (.call (same_ints_c _ (h _ (Wc a))) (.pos rfl (.go ⟨k+1,rfl,a⟩ Oo))))))
theorem Qgn{s:Sp}(c:QcQ s.sh){a:Int}(n:Nat)(d:a=n):QbV .i64 a (wu s.sh)=((n/szS s:Nat):Int):=by obtain ⟨e,f,g,h,b⟩:=Jo c;subst d;rw[Xg Oo];unfold QbV;rw[W5 (show s.sh.toNat<=IntKind.i64.bits from (by show _<=64;omega)),Uy _ (by rw[b];omega),b];exact (Uv _ _).symm
def Jn(s:Sp)(a:Int):Nat:=a.toNat/szS s
theorem QeW{s:Sp}(b:Zn s){a:Int}(i:0<=a)(h:a<s.ws.length):Jn s a<s.fs.length:=by obtain ⟨c,d,e,f,g⟩:=Jo b.shp.sh;unfold Jn;have:=b.shp.wl;exact (VT Oo).2 Oo
def Qby(s:Sp)(p w:Int):Prop:=(¬ w=0/\w<=s.ws.length/\0<=p/\p<s.ws.length)/\∃ (h1:Jn s p<s.fs.length) (h2:Jn s (w-1)<s.fs.length),¬ s.fs[Jn s p].ow = -1/\¬ s.fs[Jn s (w-1)].ow = -1/\s.fs[Jn s (w-1)].st<s.fs[Jn s p].st
theorem XF{s:Sp}(a:Zn s):s.ws.length<=16384:=by obtain ⟨c,d,e,b,f⟩:=Jo a.shp.sh;have:=a.shp.wl;have h:s.fs.length*szS s<=64*256:=VP a.shp.hi b;omega
theorem rpair_c{s:Sp}(c:Zn s){p w:Int}(t:0<=w/\w<=18446744073709551615):JL s p w=some (open Classical in if ¬ w=0/\w<=s.ws.length/\0<=p/\p<s.ws.length then((Jn s p:Int),(Jn s (w-1):Int),bP (Qby s p w)) else(0,0,false)):=by have l:=XF c;refine Gd.eq ?_;unfold JL;rw[Xg (n:=(s.ws.length:Int)) Oo];refine .ite (λh=>.some (by rw[if_neg λk=>k.1 h])) λf=>?_;refine .ite (λh=>.some (by rw[if_neg λk=>by omega])) λm=>?_;refine .ite (λh=>.some (by rw[if_neg λk=>by omega])) λo=>?_;refine .ite (λh=>.some (by rw[if_neg λk=>by omega])) λr=>?_;have h:¬ w=0/\w<=s.ws.length/\0<=p/\p<s.ws.length:=⟨f,Oo,Oo,Oo⟩;have d:=QeW c (a:=p) Oo Oo;have e:=QeW c (a:=w-1) Oo Oo;refine .pos (Qfn c.shp.sh) ?_;rw[if_pos h,Xg (n:=w-1) Oo,Qb (n:=w-1) Oo,Qgn c.shp.sh p.toNat Oo,Qgn c.shp.sh (w-1).toNat Oo];refine .atN d (.atN e ?_);refine .ite (λk=>.some (by rw[Qfm λ⟨_,_,_,q,_⟩=>q k];rfl)) λg=>?_;refine .ite (λk=>.some (by rw[Qfm λ⟨_,_,_,_,q,_⟩=>q k];rfl)) λi=>.some ?_;refine congrArg (λb=>((Jn s p:Int),(Jn s (w-1):Int),b)) ?_;have:=(some_b (b:=decide (s.fs[Jn s (w-1)].st<s.fs[Jn s p].st)) (p:=Qby s p w) (by rw[decide_eq_true_iff];exact ⟨λj=>⟨h,d,e,g,i,j⟩,λ⟨_,_,_,_,_,q⟩=>q⟩));injection this
theorem frOf_in{s:Sp}(b:Zn s){a:Int}(c:0<=a)(h:a<s.ws.length):(0:Int)<=(Jn s a:Int)/\(Jn s a:Int)<64:=by have:=QeW b c h;have:=b.shp.hi;omega
theorem Qdx.z{s:Sp}(h:Qdx s):0<=s.sh/\s.sh<=8/\8<=szS s/\szS s<=256/\(2:Int)^s.sh.toNat=(szS s:Int):=Jo h.sh
theorem Qdx.small{s:Sp}(h:Qdx s):s.ws.length<=16384:=by rw[h.wl];exact VP h.hi h.z.2.2.2.1
theorem Qgh{s:Sp}(h:Qdx s){a:Int}(i:0<=a)(b:a<s.ws.length):∃ F:Nat,a/szS s=F/\F<s.fs.length:=by obtain ⟨c,d,e,f,g⟩:=h.z;obtain ⟨n,rfl⟩:∃ n:Nat,a=n:=⟨a.toNat,Oo⟩;refine ⟨n/szS s,by push_cast;rfl,?_⟩;rw[h.wl]at b;exact Vy (by rw[VG];omega)
def adv(s:Sp)(f n:Int):Int×Int:=if 0<=itF s.fs (n/szS s).toNat f then(itF s.fs (n/szS s).toNat f*szS s+n%szS s,0) else(0,2)
theorem adv_lt{s:Sp}{f n:Int}(c:0<=f)(b:0<=n)(a:n<szS s):adv s f n=(f*szS s+n,0):=by
 have e:(n/szS s).toNat=0:=by rw[YR b a];rfl
 unfold adv;rw[e];show (if 0<=f then(f*szS s+n%szS s,0) else(0,2))=_;rw[if_pos c,Int.emod_eq_of_lt b a]
theorem adv_neg{s:Sp}{f n:Int}(a:f = -1):adv s f n=(0,2):=by unfold adv;rw[XN _ a];rfl
theorem adv_ge{s:Sp}{f n:Int}(e:0<szS s)(d:szS s<=n):adv s f n=adv s (nxF s.fs f) (n-szS s):=by
 have a:n/szS s=(n-szS s)/szS s+1:=by
  have:n=(n-szS s)+1*szS s:=by omega
  rw[this,Int.add_mul_ediv_right _ _ Oo];congr 2;omega
 have b:(n-szS s)%szS s=n%szS s:=by rw[Int.sub_emod_right]
 have c:0<=(n-szS s)/szS s:=YW Oo Oo;unfold adv;rw[b,a,show ((n-szS s)/szS s+1).toNat=((n-szS s)/szS s).toNat+1 by omega];rfl
def ownF(fs:List Fe)(f:Int):Int:=if h:0<=f/\f.toNat<fs.length then(fs[f.toNat]'h.2).ow else -1
theorem ownF_at{fs:List Fe}{i:Nat}(h:i<fs.length):ownF fs i=fs[i].ow:=by unfold ownF;rw[dif_pos ⟨Oo,by simpa using h⟩];rfl
def GoR(s:Sp)(a k:Int):Int×Int:=if a<0\/s.ws.length<=a\/k<0 then(0,2) else if ownF s.fs (a/szS s) = -1 then(0,5) else adv s (a/szS s) (a%szS s+k)
theorem Qe3{s:Sp}{a k:Int}(h:a<0\/s.ws.length<=a\/k<0):GoR s a k=(0,2):=if_pos h
theorem GoR_in{s:Sp}{a k:Int}(d:0<=a)(b:a<s.ws.length)(c:0<=k):GoR s a k=if ownF s.fs (a/szS s) = -1 then(0,5) else adv s (a/szS s) (a%szS s+k):=if_neg Oo
theorem adv_end{s:Sp}(h:Zn s){F:Nat}(C:F<s.fs.length){n:Int}(B:(s.ws.length:Int)<n):adv s F n=(0,2):=by
 obtain ⟨v,w,y,z,A⟩:=h.shp.z;have u:=h.shp.wl;have e:s.fs.length<=(n/szS s).toNat:=by
  have d:((s.fs.length:Nat):Int)<=n/szS s:=by rw[Int.le_ediv_iff_mul_le Oo];omega
  omega
 have f:=h.ends.str;have g:=Q2 h.fm;have h2:itF s.fs s.fs.length F = -1:=by
  apply Classical.byContradiction;intro k;have c:∀ j,j<=s.fs.length->0<=itF s.fs j F/\itF s.fs j F<s.fs.length:=by
   intro j m;have d:=g.it j F Oo;refine ⟨?_,d.2⟩;rcases U5 (itF s.fs j F) 0 with h2 | h2
   ·exfalso;apply k;rw[show s.fs.length=j+(s.fs.length-j) by omega,J1];exact XN _ Oo
   ·exact h2
  have i:((List.range (s.fs.length+1)).map λj=>(itF s.fs j F).toNat).Nodup:=by
   rw[Vd,Vs];refine WA.2 λa b p q r e=>?_;simp only[WS]at p q;simp only[UT]at e;have d:=c a Oo;have h2:=c b Oo;have l:itF s.fs b F=itF s.fs a F:=by omega
   rw[show b=a+((b-a-1)+1) by omega,J1]at l;have o:=f (itF s.fs a F).toNat Oo (b-a-1) Oo;apply o;rw[show (((itF s.fs a F).toNat:Nat):Int)=itF s.fs a F by omega];exact l
  have:=Qdp s.fs.length _ i λx t=>by obtain ⟨j,m,rfl⟩:=Wm.1 t;have:=c j (by have:=WE.1 m;omega);omega
  rw[Wb,WS]at this;omega
 unfold adv;rw[show (n/szS s).toNat=s.fs.length+((n/szS s).toNat-s.fs.length) by omega,J1,h2,XN _ rfl];rfl
theorem u64_wrap{n:Nat}(h:n<18446744073709551616):IntKind.u64.wrap (n:Int)=n:=IntWalk.u64_in _ Oo
theorem Qgg{a b:Nat}(e:a<18446744073709551616)(f:b<18446744073709551616):bits BinOp.and IntKind.u64 a b=((a &&& b:Nat):Int)/\bits BinOp.or IntKind.u64 a b=((a ||| b:Nat):Int):=by
 have c:a &&& b<2^64:=YB Nat.and_le_left Oo;have d:a ||| b<2^64:=YH Oo Oo;constructor
 ·show IntKind.u64.wrap ((BitVec.ofInt 64 (a:Int) &&& BitVec.ofInt 64 (b:Int)).toNat:Int)=_;rw[BitVec.ofInt_natCast,BitVec.ofInt_natCast,BitVec.toNat_and,BitVec.toNat_ofNat,BitVec.toNat_ofNat,VE Oo,VE Oo,u64_wrap Oo]
 ·show IntKind.u64.wrap ((BitVec.ofInt 64 (a:Int) ||| BitVec.ofInt 64 (b:Int)).toNat:Int)=_;rw[BitVec.ofInt_natCast,BitVec.ofInt_natCast,BitVec.toNat_or,BitVec.toNat_ofNat,BitVec.toNat_ofNat,VE Oo,VE Oo,u64_wrap Oo]
theorem pow_le64{n:Nat}(h:n<=64):1<=(2:Nat)^n/\(2:Nat)^n<=18446744073709551616:=⟨Nat.pow_pos Od,UE Od h⟩
theorem and_mask{a n:Nat}(b:a<18446744073709551616)(c:n<=64):bits BinOp.and IntKind.u64 a ((2^n-1:Nat):Int)=((a%2^n:Nat):Int):=by have:=pow_le64 c;rw[(Qgg b Oo).1,Yp]
theorem mask1{n:Nat}(b:n<=64):IntKind.u64.wrap (18446744073709551615*2^n)=((18446744073709551616-2^n:Nat):Int):=by
 have a:∀ n:Fin 65,IntKind.u64.wrap (18446744073709551615*2^n.val)=((18446744073709551616-2^n.val:Nat):Int):=by decide +kernel
 exact a ⟨n,Oo⟩
theorem mask2{n:Nat}(b:n<=64):IntKind.u64.wrap (BitVec.ofInt IntKind.u64.bits (if IntKind.u64.signed then -1 else IntKind.u64.max) ^^^ BitVec.ofInt IntKind.u64.bits ((18446744073709551616-2^n:Nat):Int)).toNat=((2^n-1:Nat):Int):=by
 have a:∀ n:Fin 65,IntKind.u64.wrap (BitVec.ofInt IntKind.u64.bits (if IntKind.u64.signed then -1 else IntKind.u64.max) ^^^ BitVec.ofInt IntKind.u64.bits ((18446744073709551616-2^n.val:Nat):Int)).toNat=((2^n.val-1:Nat):Int):=by decide +kernel
 exact a ⟨n,Oo⟩
def hdW(r d:Int):Int:=(1+r+d)*256+r*2
def QeG(r d:Int):Prop:=0<=r/\r<=15/\0<=d/\d<=32
instance(r d:Int):Decidable (QeG r d):=by unfold QeG;infer_instance
def Qet(r d:Int):Int×Int:=if QeG r d then(hdW r d,0) else(0,13)
def IsHd(w r d:Int):Prop:=w=hdW r d/\QeG r d
structure Hd where
 r:Int
 d:Int
 a:Int
 mv:Bool
 e:Int
def JW(w:Int):Hd := if w%2=1 then(if 16384<=w/2 then ⟨0,0,0,false,12⟩ else ⟨0,0,w/2,true,0⟩) else if w%256/2<=15/\1+w%256/2<=w/256/\w/256<=33+w%256/2 then ⟨w%256/2,w/256-1-w%256/2,0,false,0⟩ else ⟨0,0,0,false,12⟩
theorem DecR_hd{r d:Int}(h:QeG r d):JW (hdW r d)=⟨r,d,0,false,0⟩:=by
 unfold QeG at h;unfold JW hdW;have c:((1+r+d)*256+r*2)%2=0:=by omega
 have a:((1+r+d)*256+r*2)%256/2=r:=by omega
 have b:((1+r+d)*256+r*2)/256=1+r+d:=by omega
 rw[if_neg Oo,a,b,if_pos Oo];congr 1;omega
theorem DecR_ok{w:Int}(d:0<=w)(h:(JW w).e=0)(b:(JW w).mv=false):IsHd w (JW w).r (JW w).d:=by
 unfold JW at h b ⊢;by_cases c:w%2=1
 ·rw[if_pos c]at h b;by_cases a:16384<=w/2
  ·rw[if_pos a]at h;cases h
  ·rw[if_neg a]at b;cases b
 ·rw[if_neg c]at h b ⊢;by_cases a:w%256/2<=15/\1+w%256/2<=w/256/\w/256<=33+w%256/2
  ·rw[if_pos a];unfold IsHd hdW QeG;simp only[];omega
  ·rw[if_neg a]at h;cases h
def wAt(s:Sp)(a:Int):Int:=if h:0<=a/\a.toNat<s.ws.length then s.ws[a.toNat]'h.2 else 0
theorem wAt_in{s:Sp}{a:Int}(b:0<=a)(h:a.toNat<s.ws.length):wAt s a=s.ws[a.toNat]:=dif_pos ⟨b,h⟩
theorem Qfo{s:Sp}(b:SpW s)(a:Int):U64 (wAt s a):=by
 unfold wAt;split
 ·exact b.1 _ (Wc _)
 ·exact ⟨Od,Od⟩
structure Lk where
 r:Int
 d:Int
 e:Int
def Qy(s:Sp)(a:Int):Lk := if ¬ (GoR s a 0).2=0 then ⟨0,0,(GoR s a 0).2⟩ else if ¬ (JW (wAt s a)).e=0\/(JW (wAt s a)).mv=true then ⟨0,0,12⟩ else if ¬ (GoR s a ((JW (wAt s a)).r+(JW (wAt s a)).d)).2=0 then ⟨0,0,2⟩ else ⟨(JW (wAt s a)).r,(JW (wAt s a)).d,0⟩
open Classical in
def ShapeR (s:Sp) (a:Int):Lk:=if Zn s then Qy s a else ⟨0,0,1⟩
theorem ShapeR_t{s:Sp}{a:Int}(h:Zn s):ShapeR s a=Qy s a:=if_pos h
theorem GoR_e{s:Sp}{a k:Int}(h:(GoR s a k).2=0):0<=a/\a<s.ws.length/\0<=k/\¬ ownF s.fs (a/szS s) = -1/\GoR s a k=adv s (a/szS s) (a%szS s+k)/\0<=itF s.fs ((a%szS s+k)/szS s).toNat (a/szS s):=by
 unfold GoR at h ⊢;by_cases c:a<0\/s.ws.length<=a\/k<0
 ·rw[if_pos c]at h;cases h
 ·rw[if_neg c]at h ⊢;by_cases b:ownF s.fs (a/szS s) = -1
  ·rw[if_pos b]at h;cases h
  ·rw[if_neg b]at h ⊢;refine ⟨Oo,Oo,Oo,b,rfl,?_⟩;unfold adv at h;by_cases d:0<=itF s.fs ((a%szS s+k)/szS s).toNat (a/szS s)
   ·exact d
   ·rw[if_neg d]at h;cases h
theorem GoR_v{s:Sp}{a k:Int}(h:(GoR s a k).2=0):(GoR s a k).1=itF s.fs ((a%szS s+k)/szS s).toNat (a/szS s)*szS s+(a%szS s+k)%szS s:=by obtain ⟨d,e,f,g,b,c⟩:=GoR_e h;rw[b];unfold adv;rw[if_pos c]
theorem Qg4{s:Sp}(b:Qdx s)(n:NxIn s.fs){a k:Int}(h:(GoR s a k).2=0):0<=(GoR s a k).1/\(GoR s a k).1<s.ws.length:=by
 obtain ⟨r,t,u,v,w⟩:=b.z;obtain ⟨f,i,x,y,z,j⟩:=GoR_e h;obtain ⟨F,A,l⟩:=Qgh b f i;have o:=n.it ((a%szS s+k)/szS s).toNat (a/szS s) Oo;have p:0<=(a%szS s+k)%szS s:=V4 _ Oo;have q:(a%szS s+k)%szS s<szS s:=V6 _ Oo;rw[GoR_v h];generalize itF s.fs ((a%szS s+k)/szS s).toNat (a/szS s)=g at *;generalize (a%szS s+k)%szS s=m at *;have c:0<=g*szS s:=YC j Oo;have d:(g+1)*szS s<=s.fs.length*szS s:=Uj Oo Oo;have e:(g+1)*szS s=g*szS s+szS s:=by rw[Int.add_mul,YI]
 rw[b.wl];push_cast;omega
theorem Qgj{s:Sp}(d:Qdx s)(n:NxIn s.fs){a j k:Int}(h:(GoR s a k).2=0)(m:0<=j)(A:j<=k):(GoR s a j).2=0:=by
 obtain ⟨r,t,u,v,w⟩:=d.z;obtain ⟨b,c,x,g,y,i⟩:=GoR_e h;have e:0<=a%szS s:=V4 _ Oo;have o:(a%szS s+j)/szS s<=(a%szS s+k)/szS s:=Int.ediv_le_ediv Oo Oo;have p:0<=(a%szS s+j)/szS s:=YW Oo Oo;have f:0<=itF s.fs ((a%szS s+j)/szS s).toNat (a/szS s):=by
  rcases U5 (itF s.fs ((a%szS s+j)/szS s).toNat (a/szS s)) 0 with h8 | h8
  ·exfalso;obtain ⟨F,z,l⟩:=Qgh d b c;have q:=n.it ((a%szS s+j)/szS s).toNat (a/szS s) Oo;rw[show ((a%szS s+k)/szS s).toNat=((a%szS s+j)/szS s).toNat+(((a%szS s+k)/szS s).toNat-((a%szS s+j)/szS s).toNat) by omega,J1,XN _ Oo]at i;omega
  ·exact h8
 rw[GoR_in b c m,if_neg g];unfold adv;rw[if_pos f]
theorem LookR_ok{s:Sp}(m:SpW s){a r d:Int}(h:Qy s a=⟨r,d,0⟩):(GoR s a 0).2=0/\JW (wAt s a)=⟨r,d,0,false,0⟩/\QeG r d/\wAt s a=hdW r d/\(GoR s a (r+d)).2=0:=by
 unfold Qy at h;by_cases c:(GoR s a 0).2=0
 ·rw[if_neg (by simp[c])]at h;by_cases e:¬ (JW (wAt s a)).e=0\/(JW (wAt s a)).mv=true
  ·rw[if_pos e]at h;cases h
  ·rw[if_neg e]at h;by_cases f:(GoR s a ((JW (wAt s a)).r+(JW (wAt s a)).d)).2=0
   ·rw[if_neg (by simp[f])]at h;have i:(JW (wAt s a)).e=0:=Classical.byContradiction λh=>e (.inl h);have j:(JW (wAt s a)).mv=false:=by
     cases hm:(JW (wAt s a)).mv
     ·rfl
     ·exact absurd (.inr hm) e
    have b:=DecR_ok (Qfo m a).1 i j;injection h with k l;rw[k,l]at b f;have g:=DecR_hd b.2;rw[<- b.1]at g;exact ⟨c,g,b.2,b.1,f⟩
   ·rw[if_pos f]at h;cases h
 ·rw[if_pos c]at h;injection h with _ _ h;exact absurd h c
theorem LookR_mk{s:Sp}{a r d:Int}(b:(GoR s a 0).2=0)(c:wAt s a=hdW r d)(f:QeG r d)(e:(GoR s a (r+d)).2=0):Qy s a=⟨r,d,0⟩:=by unfold Qy;rw[if_neg (by simp[b]),c,DecR_hd f,if_neg Os,if_neg (by simp[e])]
def FnR(l:Lk)(a:Bool):Int:=if a then l.r else l.d
def FbR(l:Lk)(a:Bool):Int:=if a then 1 else 1+l.r
def setS(s:Sp)(x w:Int):Sp:={ s with ws:=s.ws.set x.toNat w }
theorem setS_len(s:Sp)(x w:Int):(setS s x w).ws.length=s.ws.length:=Ww ..
theorem GoR_ws{sh:Int}{ws l:List Int}{fs:List Fe}{a k:Int}(h:l.length=ws.length):GoR ⟨sh,l,fs⟩ a k=GoR ⟨sh,ws,fs⟩ a k:=by unfold GoR adv szS;simp only[h]
def clrL(s:Sp)(a:Int):Nat->List Int->List Int
 | 0,l=>l
 | n+1,l=>(clrL s a n l).set (GoR s a ((n+1:Nat):Int)).1.toNat 0
@[simp] theorem clrL_len(s:Sp)(a:Int)(l:List Int):∀ n,(clrL s a n l).length=l.length
 | 0=>rfl
 | n+1=>by unfold clrL;rw[Ww];exact clrL_len s a l n
theorem end_len{s:Sp}(h:Zn s){F:Nat}(t:F<s.fs.length):itF s.fs s.fs.length F = -1:=by
 have d:=h.ends.str;have f:=Q2 h.fm;apply Classical.byContradiction;intro i;have c:∀ j,j<=s.fs.length->0<=itF s.fs j F/\itF s.fs j F<s.fs.length:=by
  intro j m;have k:=f.it j F Oo;refine ⟨?_,k.2⟩;rcases U5 (itF s.fs j F) 0 with h2 | h2
  ·exfalso;apply i;rw[show s.fs.length=j+(s.fs.length-j) by omega,J1];exact XN _ Oo
  ·exact h2
 have g:((List.range (s.fs.length+1)).map λj=>(itF s.fs j F).toNat).Nodup:=by
  rw[Vd,Vs];refine WA.2 λa b o p q e=>?_;simp only[WS]at o p;simp only[UT]at e;have k:=c a Oo;have h2:=c b Oo;have l:itF s.fs b F=itF s.fs a F:=by omega
  rw[show b=a+((b-a-1)+1) by omega,J1]at l;have n:=d (itF s.fs a F).toNat Oo (b-a-1) Oo;apply n;rw[show (((itF s.fs a F).toNat:Nat):Int)=itF s.fs a F by omega];exact l
 have:=Qdp s.fs.length _ g λx r=>by obtain ⟨j,m,rfl⟩:=Wm.1 r;have:=c j (by have:=WE.1 m;omega);omega
 rw[Wb,WS]at this;omega
def MkE(s:Sp)(a r d:Int):Int:=if QeG r d then(GoR s a (r+d)).2 else 13
theorem mod_neg{v n:Int}(e:1<=n)(h:-((-v)%n)<0):-((-v)%n)+n=v%n:=by
 have b:=Int.mul_ediv_add_emod (-v) n;have c:=V4 (-v) (by omega:n≠0);have d:=V6 (-v) (by omega:0<n);generalize (-v)%n=m at *;generalize (-v)/n=p at *;have a:v=(n-m)+n*(-p-1):=by rw[Int.mul_sub,Int.mul_neg,Int.mul_one];omega
 rw[a,Int.add_mul_emod_self_left,Int.emod_eq_of_lt Oo Oo];omega
theorem mod_zero{v n:Int}(d:1<=n)(h:¬ -((-v)%n)<0):-((-v)%n)=v%n:=by
 have b:=V4 (-v) (by omega:n≠0);have a:(-v)%n=0:=by omega
 have c:v%n=0:=Int.emod_eq_zero_of_dvd (Int.dvd_neg.1 (Int.dvd_of_emod_eq_zero a));omega
def clN(s:Sp)(n:Int):Int:=if n<0\/1099511627776<n then 0 else(n+szS s-1)/szS s
abbrev feF:Fe:=⟨-1,-1,-1⟩
abbrev feZ:Fe:=⟨0,0,0⟩
def frsL(n j:Nat):List Fe:=(List.range n).map λi=>if i<j then feF else feZ
@[simp] theorem frsL_len(n j:Nat):(frsL n j).length=n:=by unfold frsL;simp
def newS(k:Int)(n:Nat):Sp:=⟨k,List.replicate (n*2^k.toNat) 0,List.replicate n feF⟩
theorem QdR{s:Sp}(a:QcQ s.sh)(n:Int):0<=clN s n/\clN s n<=1099511627776:=by
 obtain ⟨d,e,f,g,i⟩:=Jo a;unfold clN;split
 ·omega
 ·rename_i h;refine ⟨YW Oo Oo,?_⟩;have b:(n+szS s-1)/szS s<=n:=by
   rcases U5 n 1 with h2 | h2
   ·have:n=0:=by omega
    subst this;rw[YR Oo Oo];omega
   ·refine Int.le_of_lt_add_one (Int.ediv_lt_of_lt_mul Oo ?_);have c:n*1<=n*szS s:=Int.mul_le_mul_of_nonneg_left Oo Oo;rw[Int.add_mul,YI];omega
  omega
def itL(s:Sp)(F:Int)(m:Nat):List Int:=(List.range m).map λj=>itF s.fs j F
@[simp] theorem itL_len(s:Sp)(F:Int)(m:Nat):(itL s F m).length=m:=by unfold itL;simp
def IsLen(s:Sp)(f:Int)(m:Nat):Prop:=1<=m/\m<=s.fs.length/\itF s.fs m f = -1/\∀ j,j<m->0<=itF s.fs j f/\itF s.fs j f<s.fs.length
theorem IsLen.uniq{s:Sp}{f:Int}{m k:Nat}(a:IsLen s f m)(b:IsLen s f k):m=k:=by
 rcases UZ m k with h | h | h
 ·have:=b.2.2.2 m h;have:=a.2.2.1;omega
 ·exact h
 ·have:=a.2.2.2 k h;have:=b.2.2.1;omega
def fldL(s:Sp)(a:Int)(n:Nat):List Int:=(List.range n).map λ(j:Nat)=>(GoR s a (1+(j:Int))).1
@[simp] theorem fldL_len(s:Sp)(a:Int)(n:Nat):(fldL s a n).length=n:=by unfold fldL;simp
theorem mod_c{v n:Int}(k:I64 v)(b:1<=n/\n<=9223372036854775807):ZA v n=some (v%n):=by
 unfold I64 at k;have c:=V4 v (by omega:n≠0);have d:=V6 v (by omega:0<n);have f:=V4 (-v) (by omega:n≠0);have g:=V6 (-v) (by omega:0<n);refine Gd.eq ?_;unfold ZA;refine .pos Oo ?_;by_cases j:0<=v
 ·rw[VU j];exact .neg Oo (.some rfl)
 ·have e:Int.tmod v n = -((-v)%n):=by rw[<- VU (a:=-v) Oo,Int.neg_tmod,Int.neg_neg]
  rw[e];refine .ite (λh=>.some ?_) λh=>.some (mod_zero b.1 h);have i:=mod_neg b.1 h;rw[Qb Oo,i]
theorem sh_1{s:Sp}(b:QcQ s.sh):Qbv .i64 1 (wu s.sh)=(szS s:Int):=by have:=Qgo b (a:=1) 1 rfl Oo;rw[UH]at this;exact this
theorem sh_a{s:Sp}(i:QcQ s.sh){a:Int}(h:0<=a)(g:a<=9223372036854775807):bits BinOp.and IntKind.i64 a ((szS s:Int)-1)=a%(szS s:Int):=by obtain ⟨e,z,j,b,c,k,l,m,d,f⟩:=sh_get i;rw[d];exact and_mod h g c f
theorem go_c{s:Sp}(b:Qdx s)(B:NxIn s.fs){a k:Int}(y:I64 a)(A:I64 k):QP s a k=some (GoR s a k):=by
 obtain ⟨D,E,G,t,H⟩:=b.z;have p:=b.small;unfold I64 at y A;refine Gd.eq ?_;unfold QP;refine .ite (λh=>.some (Qe3 (.inl h)).symm) λI=>?_;refine .ite (λh=>.some (Qe3 (.inr (.inl h))).symm) λJ=>?_;refine .ite (λh=>.some (Qe3 (.inr (.inr h))).symm) λK=>?_;refine .pos (Qfn b.sh) ?_;rw[GoR_in Oo Oo Oo];obtain ⟨F,u,d⟩:=Qgh b (a:=a) Oo Oo;have g:=V4 a (by omega:(szS s:Int)≠0);have i:=V6 a (by omega:(0:Int)<szS s);rw[Qgn b.sh a.toNat Oo,sh_1 b.sh,Qb (n:=(szS s:Int)-1) Oo,sh_a b.sh Oo Oo,u,show a.toNat/szS s=F by
  have:((a.toNat/szS s:Nat):Int)=a/szS s:=by rw[Uv,Vl Oo]
  omega]
 refine .atN d ?_;rw[ownF_at d];refine .ite (λh=>.some (by rw[if_pos h])) λv=>?_;rw[if_neg v];refine Gd.bndR (P:=λz=>(∃ n f o:Int,z = .inl (n,f,o)/\0<=f/\f<s.fs.length/\0<=o/\0<=n/\o+n<szS s/\adv s F (a%szS s+k)=adv s f (o+n))\/(z = .inr (0,2)/\adv s F (a%szS s+k)=(0,2))) ?_ (λz e=>?_) (λr e=>?_)
 ·refine Gd.loop (λx:Int×Int×Int=>0<=x.2.1/\x.2.1<s.fs.length/\0<=x.2.2/\x.2.2<szS s/\0<=x.1/\x.1<=9223372036854775807/\adv s F (a%szS s+k)=adv s x.2.1 (x.2.2+x.1)) _ (λx=>x.1.toNat) ⟨by dsimp only;omega,by dsimp only;omega,g,i,by dsimp only;omega,by dsimp only;omega,rfl⟩ ?_;rintro ⟨n,f,o⟩ ⟨c,i2,i3,i4,i5,i6,i7⟩;dsimp only at c i2 i3 i4 i5 i6 i7 ⊢;rw[Qb (n:=(szS s:Int)-o) Oo];refine .ite (λw=>?_) λw=>.out (.inl ⟨n,f,o,rfl,c,i2,i3,i5,Oo,i7⟩);refine .at c Oo ?_;have C:=B f.toNat Oo;have j:=adv_ge (s:=s) (f:=f) (n:=o+n) Oo Oo;rw[nxF_z c Oo]at j;refine .ite (λm=>.out (.inr ⟨rfl,?_⟩)) λm=>?_
  ·rw[i7,j];exact adv_neg m
  ·rw[Qb (n:=n-((szS s:Int)-o)) Oo];refine .go ⟨by dsimp only;omega,by dsimp only;omega,by dsimp only;omega,by dsimp only;omega,by dsimp only;omega,by dsimp only;omega,?_⟩ (by dsimp only;omega);dsimp only;rw[i7,j];congr 1;omega
 ·rcases e with ⟨n,f,o,h,c,i2,i3,i4,i5,i6⟩ | ⟨h,_⟩
  ·injection h with h;subst h;dsimp only;rw[i6,adv_lt c Oo i5,Qgo b.sh f.toNat Oo (by have:=b.hi;omega)];have q:f.toNat*szS s<=64*256:=VP (by have:=b.hi;omega) t;have l:((f.toNat*szS s:Nat):Int)=f*szS s:=by push_cast;rw[Vl c]
   rw[l];rw[Qb (n:=f*szS s+o) Oo,Qb (n:=f*szS s+o+n) Oo,Int.add_assoc];exact .some rfl
  ·cases h
 ·rcases e with ⟨n,f,o,h,_⟩ | ⟨h,e⟩
  ·cases h
  ·injection h with h;rw[h,e]
theorem frames_c{s:Sp}(a:QcQ s.sh){n:Int}(b:I64 n):JU n s.sh=some (clN s n):=by obtain ⟨c,d,e,f,g⟩:=Jo a;unfold I64 at b;refine Gd.eq ?_;unfold JU clN;refine .ite (λh=>.some (by rw[if_pos (.inl h)])) λi=>?_;refine .ite (λh=>.some (by rw[if_pos (.inr h)])) λj=>?_;refine .neg Oo (.neg Oo (.pos (Qfn a) (.some ?_)));rw[if_neg Oo,sh_1 a,Qb (n:=n+szS s) Oo,Qb (n:=n+szS s-1) Oo,Qgn a (n+szS s-1).toNat Oo,Uv,Vl Oo]
theorem Qb2{s:Sp}(a:QcQ s.sh){i:Inc}(b:I64 i.words):QR s i=some (clN s i.words):=by unfold QR;rw[frames_c a b];rfl
theorem extra_c{s:Sp}(a:QcQ s.sh){i:Inc}{n:Int}(c:I64 i.words)(h:I64 (i.words+n)):Xl s i n=some (clN s (i.words+n)-clN s i.words):=by unfold Xl;have d:=QdR a (i.words+n);have e:=QdR a i.words;have b:=h;unfold I64 at b;rw[Qb (n:=i.words+n) Oo,frames_c a h,Qb2 a c];simp only[WB];rw[Qb Oo]
theorem live_c(r d:Int):X2 r d=some (Qet r d):=by refine Gd.eq ?_;unfold X2 Qet;refine .ite (λh=>.some (by rw[if_neg λk=>by unfold QeG at k;omega])) λa=>?_;refine .ite (λh=>.some (by rw[if_neg λk=>by unfold QeG at k;omega])) λb=>?_;refine .ite (λh=>.some (by rw[if_neg λk=>by unfold QeG at k;omega])) λc=>?_;refine .ite (λh=>.some (by rw[if_neg λk=>by unfold QeG at k;omega])) λe=>.some ?_;rw[if_pos ⟨Oo,Oo,Oo,Oo⟩,Qb (n:=1+r) Oo,Qb (n:=1+r+d) Oo,Qb (n:=(1+r+d)*256) Oo,Qb (n:=r*2) Oo,Qb (n:=(1+r+d)*256+r*2) Oo,Xg Oo];rfl
theorem clone_w{l:List Int}(h:l.length<=4294967296):Jj l=some l:=by unfold Jj;rw[if_pos ⟨Oo,Oo⟩]
theorem copy_c{s:Sp}(a:s.ws.length<=4294967296)(b:s.fs.length<=4294967296):Zw s=some s:=by refine Gd.eq ?_;unfold Zw;exact .call (clone_w a) (.pos ⟨Oo,Oo⟩ (.some rfl))
theorem make_c{s:Sp}(e:Qdx s)(h:NxIn s.fs){a r d:Int}(o:I64 a):JS s a r d=some (if MkE s a r d=0 then(0,clrL s a (r+d).toNat (s.ws.set a.toNat (hdW r d))) else(MkE s a r d,s.ws)):=by
 refine Gd.eq ?_;unfold JS MkE;refine .call (live_c r d) ?_;unfold Qet;by_cases f:QeG r d
 ·rw[if_pos f,if_pos f];have i:=f;unfold QeG at i;refine .pos rfl ?_;rw[Qb (n:=r+d) Oo];refine .call (go_c e h o (by unfold I64;omega)) ?_;refine .ite (λg=>?_) λg=>.some (by rw[if_neg g]);rw[if_pos g];obtain ⟨q,u,_⟩:=GoR_e g;refine .at q Oo ?_;refine Gd.bind (P:=λb=>b=clrL s a (r+d).toNat (s.ws.set a.toNat (hdW r d))) ?_ λb t=>.some (by rw[t]);refine Gd.loop (λx:List Int×Int=>∃ j:Nat,x=(clrL s a j (s.ws.set a.toNat (hdW r d)),((j+1:Nat):Int))/\j<=(r+d).toNat) _ (λx=>(r+d).toNat+1-x.2.toNat) ⟨0,rfl,WO _⟩ ?_;rintro x ⟨j,rfl,hj⟩;dsimp only;refine .ite (λl=>?_) λl=>.out (by rw[show j=(r+d).toNat by omega]);have k:(GoR s a ((j+1:Nat):Int)).2=0:=Qgj e h g Oo Oo;have m:=Qg4 e h k;have c:(clrL s a j (s.ws.set a.toNat (hdW r d))).length=s.ws.length:=by simp
  refine .call (go_c (s:=⟨s.sh,clrL s a j (s.ws.set a.toNat (hdW r d)),s.fs⟩) ⟨e.sh,e.lo,e.hi,by rw[c];exact e.wl⟩ h o (by unfold I64;omega)) ?_;rw[show GoR ⟨s.sh,clrL s a j (s.ws.set a.toNat (hdW r d)),s.fs⟩ a ((j+1:Nat):Int)=GoR s a ((j+1:Nat):Int) from GoR_ws (ws:=s.ws) c];refine .at m.1 (by rw[c];have:=m.2;omega) ?_;have p:w64 (((j+1:Nat):Int)+1)=((j+1+1:Nat):Int):=Qb Oo;rw[p];exact .go ⟨j+1,rfl,Oo⟩ (by dsimp only;omega)
 ·rw[if_neg f,if_neg f];exact .neg Od (.some rfl)
theorem decode_c{w:Int}(b:U64 w):XB w=some ((JW w).r,(JW w).d,(JW w).a,(JW w).mv,(JW w).e):=by
 unfold U64 at b;have d:Int.tmod w 2=w%2:=VU b.1;have e:Int.tdiv w 2=w/2:=Ue b.1;have f:Int.tmod w 256=w%256:=VU b.1;have g:Int.tdiv w 256=w/256:=Ue b.1;have i:Int.tdiv (w%256) 2=w%256/2:=Ue Oo;refine Gd.eq ?_;unfold XB JW;rw[d,e,f,g,i,Xg (n:=w/2) Oo,Xg (n:=w/256) Oo,Xg (n:=w%256/2) Oo,Qb (n:=w%256/2) Oo,Qb (n:=w/2) Oo,Qb (n:=w/256) Oo,Qb (n:=1+w%256/2) Oo,Qb (n:=w/256-1) Oo,Qb (n:=w/256-1-w%256/2) Oo];by_cases c:w%2=1
 ·rw[if_pos c,if_pos c];by_cases a:16384<=w/2
  ·rw[if_pos a,if_pos a];exact .some rfl
  ·rw[if_neg a,if_neg a];exact .some rfl
 ·rw[if_neg c,if_neg c];by_cases h:w%256/2<=15/\1+w%256/2<=w/256/\w/256<=33+w%256/2
  ·rw[if_pos h,if_neg Oo,if_neg Oo,if_neg Oo,if_neg Oo];exact .some rfl
  ·rw[if_neg h];refine .ite (λ_=>.some rfl) λa=>?_;refine .ite (λ_=>.some rfl) λj=>?_;refine .ite (λ_=>.some rfl) λk=>?_;refine .ite (λ_=>.some rfl) λl=>?_;omega
theorem DecR_rng{w:Int}(c:U64 w):0<=(JW w).r/\(JW w).r<=15/\0<=(JW w).d/\(JW w).d<=32/\0<=(JW w).a/\(JW w).a<16384:=by
 unfold U64 at c;unfold JW;by_cases a:w%2=1
 ·rw[if_pos a];by_cases b:16384<=w/2
  ·rw[if_pos b];dsimp only;omega
  ·rw[if_neg b];dsimp only;omega
 ·rw[if_neg a];by_cases h:w%256/2<=15/\1+w%256/2<=w/256/\w/256<=33+w%256/2
  ·rw[if_pos h];dsimp only;omega
  ·rw[if_neg h];dsimp only;omega
def fwdW(b:Int):Int:=2*b+1
theorem DecR_fwd{b:Int}(h:0<=b/\b<16384):JW (fwdW b)=⟨0,0,b,true,0⟩:=by unfold JW fwdW;rw[if_pos Oo,if_neg Oo];congr 1;omega
theorem forward_c{b:Int}(h:0<=b/\b<16384):X3 b=some (fwdW b,0):=by unfold X3;rw[if_neg Oo,if_neg Oo,Qb (n:=2*b) Oo,Qb (n:=2*b+1) Oo,Xg Oo];rfl
theorem Xh{s:Sp}{a:Nat}{w:Int}(h:s.ws[a]?=some w):wAt s (a:Int)=w:=by
 have b:a<s.ws.length:=by
  rcases Ws a s.ws.length with h' | h'
  ·exact h'
  ·rw[Wi h']at h;cases h
 rw[wAt_in Oo (by rw[Wd];exact b)];rw[Wa b]at h;simpa using h
theorem QcC{s:Sp}{a:Int}(b:0<=a)(h:a.toNat<s.ws.length):wAt s a=s.ws[a.toNat]:=by obtain ⟨n,rfl⟩:∃ n:Nat,a=n:=⟨a.toNat,Oo⟩;exact Xh (Wa h)
theorem look_c{s:Sp}(h:Qdx s)(j:NxIn s.fs)(k:SpW s){a:Int}(i:I64 a):Zv s a=some ((Qy s a).r,(Qy s a).d,(Qy s a).e):=by refine Gd.eq ?_;unfold Zv Qy;refine .call (go_c h j i (by unfold I64;omega)) ?_;refine .ite (λb=>?_) λb=>.some (by rw[if_pos b]);rw[if_neg (by simp[b])];obtain ⟨g,m,_⟩:=GoR_e b;have f:U64 (wAt s a):=Qfo k a;refine .at g Oo ?_;rw[<- QcC g Oo];refine .call (decode_c f) ?_;dsimp only;refine .ite (λc=>?_) λc=>.some (by rw[if_pos (.inl c)]);refine .ite (λd=>.some (by rw[if_pos (.inr d)])) λd=>?_;rw[if_neg (by simp[c,d])];have l:=DecR_rng f;rw[Qb (n:=(JW (wAt s a)).r+(JW (wAt s a)).d) Oo];refine .call (go_c h j i (by unfold I64;omega)) ?_;refine .ite (λe=>.some (by rw[if_neg (by simp[e])])) λe=>.some (by rw[if_pos e])
def PlcR(s:Sp)(a i:Int)(b:Bool):Int×Int:=if ¬ (Qy s a).e=0 then(0,(Qy s a).e) else if i<0\/FnR (Qy s a) b<=i then(0,17) else((GoR s a (FbR (Qy s a) b+i)).1,0)
theorem Qf5{s:Sp}(f:SpW s){a:Int}(h:(Qy s a).e=0):QeG (Qy s a).r (Qy s a).d/\(GoR s a ((Qy s a).r+(Qy s a).d)).2=0:=by obtain ⟨g,i,b,j,c⟩:=LookR_ok f (r:=(Qy s a).r) (d:=(Qy s a).d) (by cases hl:Qy s a with | mk r d e=>rw[hl]at h;dsimp only at h ⊢;rw[h]);exact ⟨b,c⟩
theorem place_c{s:Sp}(d:Qdx s)(e:NxIn s.fs)(l:SpW s){a i:Int}(g:I64 a)(r:I64 i)(b:Bool):Xm s a i b=some (PlcR s a i b):=by
 refine Gd.eq ?_;unfold Xm PlcR;refine .call (look_c d e l g) ?_;dsimp only;refine .ite (λf=>?_) λf=>.some (by rw[if_pos f]);rw[if_neg (by simp[f])];obtain ⟨o,k⟩:=Qf5 l f;unfold QeG at o;refine .ite (λc=>?_) λc=>?_
 ·subst c;refine .ite (λh=>.some (by rw[if_pos (.inl h)])) λp=>?_;refine .ite (λh=>.some (by rw[if_pos (.inr h)])) λq=>?_;have m:i<(Qy s a).r:=by omega
  rw[if_neg (show ¬ (i<0\/FnR (Qy s a) true<=i) from by show ¬ (i<0\/(Qy s a).r<=i);omega),Qb (n:=1+i) Oo];refine .call (go_c d e g (by unfold I64;omega)) (.some ?_);show ((GoR s a (1+i)).1,(GoR s a (1+i)).2)=((GoR s a (1+i)).1,0);rw[Qgj d e k (j:=1+i) Oo Oo]
 ·have c:b=false:=by simpa using c
  subst c;refine .ite (λh=>.some (by rw[if_pos (.inl h)])) λp=>?_;refine .ite (λh=>.some (by rw[if_pos (.inr h)])) λq=>?_;have m:i<(Qy s a).d:=by omega
  rw[if_neg (show ¬ (i<0\/FnR (Qy s a) false<=i) from by show ¬ (i<0\/(Qy s a).d<=i);omega),Qb (n:=1+(Qy s a).r) Oo,Qb (n:=1+(Qy s a).r+i) Oo];refine .call (go_c d e g (by unfold I64;omega)) (.some ?_);show ((GoR s a (1+(Qy s a).r+i)).1,(GoR s a (1+(Qy s a).r+i)).2)=((GoR s a (1+(Qy s a).r+i)).1,0);rw[Qgj d e k (j:=1+(Qy s a).r+i) Oo Oo]
def QbX(s:Sp)(a:Int):List Int×Int:=if (Qy s a).e=0 then(fldL s a (Qy s a).r.toNat,0) else([],(Qy s a).e)
theorem fldL_succ(s:Sp)(a:Int)(n:Nat):fldL s a (n+1)=fldL s a n++[(GoR s a (1+(n:Int))).1]:=by unfold fldL;rw[Ur,WP];rfl
theorem Qei{s:Sp}(e:Qdx s)(h:NxIn s.fs)(g:SpW s){a:Int}(f:I64 a):QS s a=some (QbX s a):=by refine Gd.eq ?_;unfold QS QbX;refine .call (look_c e h g f) ?_;dsimp only;refine .ite (λc=>?_) λc=>.some (by rw[if_neg c]);rw[if_pos c];obtain ⟨i,l⟩:=Qf5 g c;unfold QeG at i;refine Gd.bind (P:=λb=>b=fldL s a (Qy s a).r.toNat) ?_ λb k=>.some (by rw[k]);refine Gd.loop (λx:List Int×Int=>∃ j:Nat,x=(fldL s a j,(j:Int))/\j<=(Qy s a).r.toNat) _ (λx=>(Qy s a).r.toNat-x.2.toNat) ⟨0,rfl,WO _⟩ ?_;rintro x ⟨j,rfl,hj⟩;dsimp only;refine .ite (λd=>?_) λd=>.out (by rw[show j=(Qy s a).r.toNat by omega]);rw[Qb (n:=1+(j:Int)) Oo,Qb (n:=(j:Int)+1) Oo];refine .call (go_c e h f (by unfold I64;omega)) (.pos (by rw[fldL_len,WJ];omega) ?_);exact .go ⟨j+1,by rw[fldL_succ];rfl,Oo⟩ (by dsimp only;omega)
section
variable{α β σ τ:Type}
theorem Gd.for{Q:β->Prop}{B:σ->Option (LS σ β)}{b:σ->β}{π:σ->Int}{k:σ}(n:Nat)(c:τ->Int->σ)(I:Nat->τ->Prop)(j:τ)(r:k=c j 0)(f:∀ t i,π (c t i)=i)(u:n<=9223372036854775806)(q:I 0 j)
  (h:∀ i,i<n->∀ t,I i t->Gd (λa=>(∃ t',a=LS.go (c t' (w64 ((i:Int)+1)))/\I (i+1) t')\/(∃ o,a=LS.out o/\Q o)) (B (c t i)))(e:∀ t,I n t->Q (b (c t n))) :
  Gd Q (Qf (λs=>if π s<(n:Int) then B s else .some (LS.out (b s))) k):=by
 refine Gd.loop (λx:σ=>∃ i:Nat,∃ t,x=c t i/\i<=n/\I i t) _ (λx=>n-(π x).toNat) ⟨0,j,r,WO _,q⟩ ?_;rintro x ⟨i,t,rfl,hi,hI⟩;refine .ite (λd=>?_) λd=>.out ?_
 ·rw[f]at d;obtain ⟨a,m,p⟩:=h i Oo t hI;refine ⟨a,m,?_⟩;rcases p with ⟨t',rfl,g⟩ | ⟨o,rfl,g⟩
  ·have l:w64 ((i:Int)+1)=((i+1:Nat):Int):=Qb Oo;rw[l];refine ⟨⟨i+1,t',rfl,Oo,g⟩,?_⟩;show n-(π (c t' ((i+1:Nat):Int))).toNat<n-(π (c t (i:Int))).toNat;rw[f,f];omega
  ·exact g
 ·rw[f]at d;obtain rfl:i=n:=by omega
  exact e t hI
theorem XP{l:List α}{v:α}{k:Int}(h:l.length<=1000000)(a:0<=k/\k<=1000):((l.length:Int)+[v].length)*k<=140737488355328/\(l.length:Int)+[v].length<=9223372036854775807:=by rw[WJ];have:=Y7 (show (l.length:Int)+((1:Nat):Int)<=1000001 by omega) a.2 a.1 Oo;omega
theorem appL_in{l v:List α}{k:Int}(h:l.length+v.length<=1000000)(a:0<=k/\k<=1000):((l.length:Int)+v.length)*k<=140737488355328/\(l.length:Int)+v.length<=9223372036854775807:=by have:=Y7 (show (l.length:Int)+(v.length:Int)<=1000001 by omega) a.2 a.1 Oo;omega
theorem len_in{l:List α}{k:Int}(h:l.length<=1000000)(a:0<=k/\k<=1000):(l.length:Int)*k<=140737488355328/\(l.length:Int)<=9223372036854775807:=by have:=Y7 (show (l.length:Int)<=1000001 by omega) a.2 a.1 Oo;omega
theorem QC{l:List α}{i:Nat}(h:i<l.length):l.take (i+1)=l.take i++[l[i]]:=by rw[List.take_add_one,Wa h];rfl
theorem QeX{l:List α}{i:Nat}(h:i<l.length)(f:σ->α->σ)(t:σ):(l.take (i+1)).foldl f t=f ((l.take i).foldl f t) l[i]:=by rw[QC h,Uo];rfl
theorem Gd.fold{Q:β->Prop}{B:σ->Option (LS σ β)}{b:σ->β}{π:σ->Int}{n:σ}(l:List α)(c:τ->Int->σ)(f:τ->α->τ)(d:τ)(I:Nat->τ->Prop)(r:n=c d 0)(p:∀ t i,π (c t i)=i)(u:l.length<=9223372036854775806)(q:I 0 d)
  (k:∀ i (h:i<l.length) t,I i t->I (i+1) (f t l[i])/\Gd (λa=>a=LS.go (c (f t l[i]) (w64 ((i:Int)+1)))) (B (c t i)))(e:I l.length (l.foldl f d)->Q (b (c (l.foldl f d) l.length))) :
  Gd Q (Qf (λs=>if π s<(l.length:Int) then B s else .some (.out (b s))) n):=by
 refine Gd.for l.length c (λi t=>t=(l.take i).foldl f d/\I i t) d r p u ⟨Os,q⟩ (λi m t j=>?_) (λt j=>?_)
 ·obtain ⟨o,g⟩:=k i m t j.2;exact .of g.eq (.inl ⟨_,rfl,by rw[QeX m,<- j.1],o⟩)
 ·obtain ⟨rfl,g⟩:=j;rw[WQ]at g ⊢;exact e g
theorem Gd.find{Q:β->Prop}{B:Int->Option (LS Int β)}{b:Int->β}(l:List α)(p:α->Prop)(u:l.length<=9223372036854775806)
  (g:∀ i (h:i<l.length),(∀ j (h:j<l.length),j<i->¬ p l[j])->Gd (λa=>(¬ p l[i]/\a=LS.go (w64 ((i:Int)+1)))\/(p l[i]/\∃ o,a=LS.out o/\Q o)) (B i))(c:(∀ x∈l,¬ p x)->Q (b l.length)) :
  Gd Q (Qf (λs=>if s<(l.length:Int) then B s else .some (LS.out (b s))) 0):=by
 refine Gd.for l.length (λ(_:Unit) i=>i) (λi _=>∀ j (h:j<l.length),j<i->¬ p l[j]) () rfl (λ_ _=>rfl) u (λj _ h=>absurd h (WT _)) (λi n t d=>?_) (λt d=>?_)
 ·refine (g i n d).mono λa q=>?_;rcases q with ⟨k,rfl⟩ | ⟨_,m⟩
  ·exact .inl ⟨(),rfl,λj h f=>by
    by_cases e:j=i
    ·subst e;exact k
    ·exact d j h Oo⟩
  ·exact .inr m
 ·refine c λx r=>?_;obtain ⟨j,f,rfl⟩:=WL.1 r;exact d j f f
end
theorem Qc2{α:Type}(p:α->Bool)(l:List α):∀ t:List α,l.foldl (λt x=>if p x=true then t++[x] else t) t=t++l.filter p:=by
 induction l with
 | nil=>intro t;simp
 | cons a l ih =>
  intro t;by_cases h:p a=true
  ·simp[ih,h]
  ·simp[ih,h]
theorem rin_c(l:List Int)(v:Int)(d:l.length<=9223372036854775806):JN l v=some (decide (v∈l)):=by
 refine Gd.eq ?_;unfold JN;refine Gd.bndR (P:=λz=>(z = .inl ()/\¬ v∈l)\/(z = .inr true/\v∈l)) ?_ (λ_ a=>?_) (λr a=>?_)
 ·refine Gd.find l (λx=>x=v) d (λi b h=>?_) (λh=>.inl ⟨rfl,λc=>h v c rfl⟩);refine .atN b (.ite (λh=>.some (.inr ⟨h,_,rfl,.inr ⟨rfl,h▸Wc _⟩⟩)) λh=>.some (.inl ⟨h,rfl⟩))
 ·rcases a with ⟨_,h⟩ | ⟨h,_⟩
  ·exact .some (by rw[decide_eq_false h])
  ·cases h
 ·rcases a with ⟨h,_⟩ | ⟨h,k⟩
  ·cases h
  ·injection h with h;rw[h,decide_eq_true k]
def ZY(r:Rts):List Nat:=(List.range r.used.length).filter λi=>r.used[i]? == some true
theorem live20_c(r:Rts)(h:r.used.length<=65536):Xd r=some ((ZY r).map λi=>((i+1:Nat):Int)):=by
 refine Gd.eq ?_;unfold Xd;refine Gd.bind (P:=λb=>b=(ZY r).map λi=>((i+1:Nat):Int)) ?_ λb g=>.some g;refine Gd.for r.used.length (λ(t:List Int) i=>(t,i)) (λi t=>t=((List.range i).filter λi=>r.used[i]? == some true).map λi=>((i+1:Nat):Int)) [] rfl (λ_ _=>rfl) Oo rfl (λi d t a=>?_) (λt a=>a);have c:t.length<=1000000:=by rw[a,Wb];have:=W9 (λi=>r.used[i]? == some true) (List.range i);rw[WS]at this;omega
 refine .atN d ?_;have f:w64 ((i:Int)+1)=((i+1:Nat):Int):=Qb Oo;rw[Ur,W4,WP,<- a];refine .ite (λe=>.pos (XP c Oo) (.some (.inl ⟨_,rfl,?_⟩))) λe=>.some (.inl ⟨_,rfl,?_⟩)
 ·dsimp only;rw[f];simp[Wa d,e]
 ·simp[Wa d,e]
def isC(fs:List Fe)(l:List Inc)(k:Nat):Bool:=match fs[k]? with | some f=>decide (f.ow∈l.map Inc.seq) | none=>false
def cfr(fs:List Fe)(l:List Inc):List Nat:=(List.range fs.length).filter (isC fs l)
theorem Qee{fs:List Fe}{l:List Inc}{k:Nat}(h:k<fs.length):isC fs l k=decide (fs[k].ow∈l.map Inc.seq):=by unfold isC;rw[Wa h]
theorem QeS{fs:List Fe}{l:List Inc}{k:Nat}:isC fs l k=true<->∃ h:k<fs.length,fs[k].ow∈l.map Inc.seq:=by
 by_cases h:k<fs.length
 ·rw[Qee h,decide_eq_true_iff];exact ⟨λa=>⟨h,a⟩,λ⟨_,a⟩=>a⟩
 ·unfold isC;rw[Wi Oo];exact ⟨λh=>(nomatch h),λ⟨a,_⟩=>absurd a h⟩
theorem mem_cfr{fs:List Fe}{l:List Inc}{k:Nat}:k∈cfr fs l<->isC fs l k=true:=by unfold cfr;rw[WX,WE];exact ⟨λh=>h.2,λh=>⟨(QeS.1 h).1,h⟩⟩
theorem mem_nat{l:List Nat}{k:Nat}:(k:Int)∈l.map (λ(k:Nat)=>(k:Int))<->k∈l:=by
 rw[Wm];refine ⟨λ⟨a,h,e⟩=>?_,λh=>⟨k,h,rfl⟩⟩;obtain rfl:a=k:=by omega
 exact h
theorem QeV(s:Sp)(l:List Inc)(h:s.fs.length<=65536)(p:l.length<=9223372036854775806):Z0 s l=some ((cfr s.fs l).map λ(k:Nat)=>(k:Int)):=by
 refine Gd.eq ?_;unfold Z0;refine Gd.bind (P:=λb=>b=(cfr s.fs l).map λ(k:Nat)=>(k:Int)) ?_ λb f=>.some f;refine Gd.for s.fs.length (λ(t:List Int) i=>(t,i)) (λi t=>t=((List.range i).filter (isC s.fs l)).map λ(k:Nat)=>(k:Int)) [] rfl (λ_ _=>rfl) Oo rfl (λi g t a=>?_) (λt a=>a);have d:t.length<=1000000:=by rw[a,Wb];have:=W9 (isC s.fs l) (List.range i);rw[WS]at this;omega
 refine Gd.bind (P:=λb=>b=((List.range (i+1)).filter (isC s.fs l)).map λ(k:Nat)=>(k:Int)) ?_ λb f=>.some (.inl ⟨_,rfl,f⟩);refine .atN g ?_;rw[Ur,W4,WP,<- a];refine Gd.find l (λx=>s.fs[i].ow=x.seq) p (λj m h=>?_) (λh=>?_)
 ·refine .atN m (.ite (λc=>.pos (XP d Oo) (.some (.inr ⟨c,_,rfl,?_⟩))) λc=>.some (.inl ⟨c,rfl⟩));have:isC s.fs l i=true:=by rw[Qee g,decide_eq_true_iff,c];exact Vc (Wc m)
  simp[this]
 ·have:isC s.fs l i=false:=by rw[Qee g,decide_eq_false_iff_not];intro o;obtain ⟨x,n,e⟩:=Wm.1 o;exact h x n e.symm
  simp[this]
def Qeq(s:Sp)(l:List Inc)(w:Int):Prop:=(¬ w=0/\w<=s.ws.length)/\isC s.fs l (Jn s (w-1))=true
theorem Qdm{s:Sp}(c:Zn s)(l:List Inc)(q:l.length<=9223372036854775806){w:Int}(p:U64 w):ZZ s l w=some (bP (Qeq s l w)):=by
 have i:=XF c;unfold U64 at p;refine Gd.eq ?_;unfold ZZ;rw[Xg (n:=(s.ws.length:Int)) Oo];refine .ite (λh=>.f λk=>k.1.1 h) λo=>?_;refine .ite (λh=>.f λk=>by have:=k.1.2;omega) λt=>?_;refine .pos (Qfn c.shp.sh) ?_;rw[Xg (n:=w-1) Oo,Qb (n:=w-1) Oo,Qgn c.shp.sh (w-1).toNat Oo];have d:=QeW c (a:=w-1) Oo Oo;refine .atN d ?_;refine Gd.bndR (P:=λz=>(z = .inl ()/\¬ Qeq s l w)\/(z = .inr true/\Qeq s l w)) ?_ (λ_ f=>?_) (λr f=>?_)
 ·refine Gd.find l (λx=>s.fs[Jn s (w-1)].ow=x.seq) q (λj g h=>?_) (λh=>.inl ⟨rfl,λk=>?_⟩)
  ·refine .atN g (.ite (λb=>.some (.inr ⟨b,_,rfl,.inr ⟨rfl,⟨o,Oo⟩,?_⟩⟩)) λb=>.some (.inl ⟨b,rfl⟩));rw[Qee d,decide_eq_true_iff,show s.fs[Jn s (w-1)].ow=l[j].seq from b];exact Vc (Wc g)
  ·have:=k.2;rw[Qee d,decide_eq_true_iff]at this;obtain ⟨x,m,e⟩:=Wm.1 this;exact h x m e.symm
 ·rcases f with ⟨_,h⟩ | ⟨h,_⟩
  ·exact .f h
  ·cases h
 ·rcases f with ⟨h,_⟩ | ⟨h,k⟩
  ·cases h
  ·injection h with h;rw[h,Qa5 k]
structure Qcz(r:Rts):Prop where
 u:r.used.length=32
 v:r.refs.length=32
 z:∀ i (h:i<r.used.length) (h':i<r.refs.length),r.used[i]=false->r.refs[i]=0
 w:∀ x∈r.refs,U64 x
theorem Xj{r:Rts}{i:Nat}:i∈ZY r<->r.used[i]?=some true:=by unfold ZY;rw[WX,WE];exact ⟨λh=>by simpa using h.2,λh=>⟨(Wo.1 h).1,by simp[h]⟩⟩
def Qz(r:Rts)(i:Nat):Int:=(r.refs[i]?).getD 0
def JB(s:Sp)(r:Rts)(l:List Inc):List Nat:=(ZY r).filter λi=>bP (Qeq s l (Qz r i))
theorem liveN_len(r:Rts):(ZY r).length<=r.used.length:=by have:=W9 (λi=>r.used[i]? == some true) (List.range r.used.length);rw[WS]at this;exact this
theorem QgK{s:Sp}(u:Zn s){r:Rts}(e:Qcz r)(l:List Inc)(v:l.length<=9223372036854775806):ZF s r l=some ((JB s r l).map λi=>((i+1:Nat):Int)):=by
 refine Gd.eq ?_;unfold ZF;refine Gd.bind (P:=λb=>b=(JB s r l).map λi=>((i+1:Nat):Int)) ?_ λb q=>.some q;have g:=e.u;refine .call (live20_c r Oo) ?_;have j:=liveN_len r;have w:((ZY r).map λi=>((i+1:Nat):Int)).length<=32:=by rw[Wb];omega
 refine Gd.fold ((ZY r).map λi=>((i+1:Nat):Int)) (λ(t:List Int) i=>(t,i)) (λt x=>if bP (Qeq s l (Qz r (x.toNat-1)))=true then t++[x] else t) [] (λi t=>t.length<=i) rfl (λ_ _=>rfl) Oo Os (λi d t y=>?_) (λ_=>?_)
 ·rw[Wb]at d;have k:(ZY r)[i]∈ZY r:=Wc d;have m:=Xj.1 k;have n:(ZY r)[i]<r.used.length:=(Wo.1 m).1;have f:=e.v;have c:(ZY r)[i]<r.refs.length:=by omega
  refine ⟨?_,?_⟩
  ·split
   ·rw[We,WJ];omega
   ·omega
  ·refine .atN (by rw[Wb];exact d) ?_;rw[Vt];have o:w64 ((((ZY r)[i]+1:Nat):Int)-1)=(((ZY r)[i]:Nat):Int):=by rw[Qb Oo];omega
   rw[o];refine .atN c ?_;have p:Qz r (((((ZY r)[i]+1:Nat):Int)).toNat-1)=r.refs[(ZY r)[i]]:=by unfold Qz;rw[Wd,Nat.add_sub_cancel,Wa c];rfl
   rw[p];refine .call (Qdm u l v (e.w _ (Wc c))) ?_;refine .ite (λh=>.pos (XP (l:=t) Oo Oo) (.some (by rw[if_pos h]))) λh=>.some (by rw[if_neg h])
 ·rw[Qc2 (λx:Int=>bP (Qeq s l (Qz r (x.toNat-1)))),V3,List.filter_map];unfold JB;refine congrArg _ (U0 λa _=>?_);show bP (Qeq s l (Qz r (((a+1:Nat):Int).toNat-1)))=_;rw[Wd,Nat.add_sub_cancel]
theorem posK_lt{l:List Qe}{t:Qe}{j:Nat}(a:j<l.length)(h:j<JX l t):QL l[j] t:=by have:=YS (p:=λx=>!bP (QL x t)) (xs:=l) h;simpa [QI] using this
theorem posK_ge{l:List Qe}(d:Ql l){t:Qe}{j:Nat}(c:j<l.length)(h:JX l t<=j):¬ QL l[j] t:=λk=>by
 have b:JX l t<l.length:=by omega
 have a:¬ QL l[JX l t] t:=λk=>by have:=Ys (p:=λx=>!bP (QL x t)) (xs:=l) (w:=b);have e:(!bP (QL l[JX l t] t))=true:=this;rw[Qa5 k]at e;cases e
 rcases Ye h with h1 | h1
 ·exact a ((d.lt h1 c).trans k)
 ·subst h1;exact a k
theorem posI_lt{l:List Int}{t:Int}{j:Nat}(a:j<l.length)(h:j<QbW l t):l[j]<t:=by have:=YS (p:=λx=>!bP (x<t)) (xs:=l) h;simpa [QI] using this
theorem posI_ge{l:List Int}(d:Asc l){t:Int}{j:Nat}(c:j<l.length)(h:QbW l t<=j):¬ l[j]<t:=λk=>by
 have a:QbW l t<l.length:=by omega
 have b:¬ l[QbW l t]<t:=λk=>by have:=Ys (p:=λx=>!bP (x<t)) (xs:=l) (w:=a);have e:(!bP (l[QbW l t]<t))=true:=this;rw[Qa5 k]at e;cases e
 rcases Ye h with h1 | h1
 ·have:=d.lt h1 c;omega
 ·subst h1;exact b k
theorem Qgu{α:Type}{R:α->α->Prop}{l:List α}(e:l.Pairwise R){i:Nat}(o:i<=l.length){x:α}(m:∀ j (h:j<l.length),j<i->R l[j] x)(n:∀ j (h:j<l.length),i<=j->R x l[j]):(l.insertIdx i x).Pairwise R:=by
 rw[ins_eq,if_pos o,WI,Ve,List.singleton_append,Vw];have g:∀ y∈l.drop i,R x y:=λy d=>by obtain ⟨j,c,rfl⟩:=WL.1 d;rw[UG];exact n _ (by rw[Wv]at c;omega) Oo
 have k:∀ y∈l.take i,R y x:=λy d=>by obtain ⟨j,c,rfl⟩:=WL.1 d;rw[Wf]at c;rw[UF];exact m _ Oo Oo
 refine ⟨e.sublist (List.take_sublist _ _),⟨g,e.sublist (List.drop_sublist _ _)⟩,λa f b hb=>?_⟩;rcases Wu.1 hb with rfl | hb
 ·exact k a f
 ·have:=e;rw[<- Vn i l,Ve]at this;exact this.2.2 a f b hb
theorem Ql.pw{l:List Qe}:Ql l<->(∀ x∈l,Qe2 x)/\l.Pairwise QL :=
 ⟨λh=>⟨h.1,WA.2 λi j b c a=>h.lt a c⟩,λh=>⟨h.1,λi b=>WA.1 h.2 i (i+1) Oo b Oo⟩⟩
theorem Asc.pw{l:List Int}:Asc l<->l.Pairwise (· < ·) :=
 ⟨λh=>WA.2 λi j b c a=>h.lt a c,λh i b=>WA.1 h i (i+1) Oo b Oo⟩
theorem withI_ok{l:List Int}(b:Asc l)(f:∀ x∈l,0<=x){s:Int}(g:0<=s):Asc (Qcd l s)/\0<(Qcd l s).length/\(∀ x∈Qcd l s,0<=x)/\(Qcd l s).length<=l.length+1:=by
 unfold Qcd;by_cases h:∃ h:QbW l s<l.length,l[QbW l s]=s
 ·rw[if_pos h];obtain ⟨a,_⟩:=h;exact ⟨b,Oo,f,Oo⟩
 ·rw[if_neg h];have c:=QeN l s;refine ⟨Asc.pw.2 (Qgu (Asc.pw.1 b) c (λj d a=>posI_lt d a) λj d a=>?_),by rw[UY,if_pos c];omega,λx hx=>?_,by rw[UY,if_pos c];omega⟩
  ·have i:=posI_ge b d a;have k:l[j]≠s:=λe=>by
    rcases Ye a with h4 | h4
    ·have:=b.lt h4 d;have m:=posI_ge b (show QbW l s<l.length by omega) (Wl _);omega
    ·exact h ⟨Oo,by simp only[h4];exact e⟩
   omega
  ·rcases (YD c).1 hx with rfl | hx
   ·exact g
   ·exact f x hx
theorem slots_pos{x:Qe}(h:Qe2 x):∀ y∈x.slots,0<=y:=λy c=>by
 obtain ⟨i,b,rfl⟩:=WL.1 c;have a:=h.2.2.2.1 Oo;rcases V5 i with rfl | hp
 ·exact a
 ·have:=h.2.2.2.2.lt hp b;omega
theorem key_l{a b c:Qe}(d:a.frm=b.frm)(e:a.to=b.to)(h:QL a c):QL b c:=by unfold QL at *;omega
theorem key_r{a b c:Qe}(d:a.frm=b.frm)(e:a.to=b.to)(h:QL c a):QL c b:=by unfold QL at *;omega
theorem putK_ok{l:List Qe}(b:Ql l){f t s:Int}(y:0<=f/\f<64)(z:0<=t/\t<64)(w:0<=s):Ql (putK l f t s)/\(putK l f t s).length<=l.length+1/\∀ B,(∀ x∈l,x.slots.length<=B)->∀ x∈putK l f t s,x.slots.length<=B+1:=by
 have d:=QeM l ⟨f,t,[]⟩;unfold putK;by_cases h:∃ h:JX l ⟨f,t,[]⟩ < l.length,l[JX l ⟨f,t,[]⟩].frm=f/\l[JX l ⟨f,t,[]⟩].to=t
 ·rw[dif_pos h];obtain ⟨v,g,k⟩:=h;have hx:=b.1 _ (Wc v);obtain ⟨C,D,E,G⟩:=withI_ok hx.2.2.2.2 (slots_pos hx) w;refine ⟨⟨λx hx=>?_,λi c=>?_⟩,by rw[Ww];omega,λB n x hx=>?_⟩
  ·rcases WY hx with hx | rfl
   ·exact b.1 x hx
   ·exact ⟨y,z,D,λh=>E _ (Wc h),C⟩
  ·rw[Ww]at c;have q:=b.2 i c;rw[Uw,Uw];by_cases e:JX l ⟨f,t,[]⟩=i
   ·rw[if_pos e,if_neg Oo];exact key_l (a:=l[i]) (by simp only[<- e];exact g) (by simp only[<- e];exact k) q
   ·rw[if_neg e];by_cases m:JX l ⟨f,t,[]⟩=i+1
    ·rw[if_pos m];exact key_r (a:=l[i+1]) (by simp only[<- m];exact g) (by simp only[<- m];exact k) q
    ·rw[if_neg m];exact q
  ·rcases WY hx with hx | rfl
   ·have:=n x hx;omega
   ·have:=n _ (Wc v);dsimp only;omega
 ·rw[dif_neg h];refine ⟨Ql.pw.2 ⟨λx hx=>?_,Qgu (Ql.pw.1 b).2 d (λj o p=>?_) λj o p=>?_⟩,by rw[UY,if_pos d];omega,λB n x hx=>?_⟩
  ·rcases (YD d).1 hx with rfl | hx
   ·exact ⟨y,z,by show 0<1;omega,λ_=>w,λi h=>by simp at h⟩
   ·exact b.1 x hx
  ·have:=posK_lt o p;unfold QL at this ⊢;exact this
  ·have r:=posK_ge b o p;have F:¬ (l[j].frm=f/\l[j].to=t):=λ⟨g,k⟩=>by
    rcases Ye p with h4 | h4
    ·have A:=b.lt h4 o;have u:=posK_ge b (show JX l ⟨f,t,[]⟩ < l.length by omega) (Wl _);unfold QL at A u;dsimp only at u;omega
    ·exact h ⟨Oo,by simp only[h4];exact ⟨g,k⟩⟩
   unfold QL at r ⊢;dsimp only at r ⊢;omega
  ·rcases (YD d).1 hx with rfl | hx
   ·show 1<=_;omega
   ·have:=n x hx;omega
theorem mem_insertIdx{α:Type}{l:List α}{i:Nat}(a:i<=l.length){x y:α}:y∈l.insertIdx i x<->y=x\/y∈l:=by
 rw[ins_eq,if_pos a];have e:l.take i++l.drop i=l:=Vn i l;constructor
 ·intro h;rcases Wk.1 h with h | h
  ·rcases Wk.1 h with h | h
   ·exact .inr (VJ h)
   ·exact .inl (Wn.1 h)
  ·exact .inr (VV h)
 ·rintro (rfl | h)
  ·simp
  ·rw[<- e]at h;rcases Wk.1 h with h | h
   ·exact Wg _ (Wg _ h)
   ·exact Wj _ h
theorem QcW{l:List Int}{s y:Int}:y∈Qcd l s<->y=s\/y∈l:=by
 unfold Qcd;split
 ·rename_i h;obtain ⟨h,e⟩:=h;exact ⟨.inr,λk=>by
   rcases k with rfl | k
   ·rw[<- e];exact Wc h
   ·exact k⟩
 ·exact mem_insertIdx (QeN l s)
def InS(l:List Qe)(f t s:Int):Prop:=∃ x∈l,x.frm=f/\x.to=t/\s∈x.slots
theorem InS_put{l:List Qe}{f t s f' c d:Int}:InS (putK l f t s) f' c d<->(f'=f/\c=t/\d=s)\/InS l f' c d:=by
 unfold putK;split
 ·rename_i h;obtain ⟨h,g,i⟩:=h;constructor
  ·rintro ⟨x,hx,a,b,k3⟩;rcases WY hx with hx | rfl
   ·exact .inr ⟨x,hx,a,b,k3⟩
   ·dsimp only at a b k3;rcases QcW.1 k3 with k3 | k3
    ·exact .inl ⟨a.symm,b.symm,k3⟩
    ·exact .inr ⟨_,Wc h,by rw[g,a],by rw[i,b],k3⟩
  ·rintro (⟨rfl,rfl,rfl⟩ | ⟨x,hx,a,b,k3⟩)
   ·exact ⟨_,List.mem_set h _,rfl,rfl,QcW.2 (.inl rfl)⟩
   ·obtain ⟨j,k,rfl⟩:=WL.1 hx;by_cases e:j=JX l ⟨f,t,[]⟩
    ·subst e;exact ⟨_,List.mem_set h _,g.symm.trans a,i.symm.trans b,QcW.2 (.inr k3)⟩
    ·refine ⟨_,?_,a,b,k3⟩;rw[WL];exact ⟨j,by rw[Ww];exact k,by rw[VS (λh=>e h.symm)]⟩
 ·constructor
  ·rintro ⟨x,hx,a,b,k3⟩;rcases (mem_insertIdx (QeM l _)).1 hx with rfl | hx
   ·exact .inl ⟨a.symm,b.symm,Wn.1 k3⟩
   ·exact .inr ⟨x,hx,a,b,k3⟩
  ·rintro (⟨rfl,rfl,rfl⟩ | ⟨x,hx,a,b,k3⟩)
   ·exact ⟨_,(mem_insertIdx (QeM l _)).2 (.inl rfl),rfl,rfl,Wn.2 rfl⟩
   ·exact ⟨x,(mem_insertIdx (QeM l _)).2 (.inr hx),a,b,k3⟩
theorem asc_ext{α:Type}{R:α->α->Prop}(d:∀ a,¬ R a a)(g:∀ {a b c},R a b->R b c->R a c):∀ {a b:List α},a.Pairwise R->b.Pairwise R->(∀ x,x∈a<->x∈b)->a=b
 | [],[],_,_,_=>rfl
 | [],y :: b,_,_,h=>by have:=(h y).2 (WH ..);cases this
 | x :: a,[],_,_,h=>by have:=(h x).1 (WH ..);cases this
 | x :: a,y :: b,ha,hb,h=>by
  have i:=Vw.1 ha;have j:=Vw.1 hb;have e:x=y:=by
   rcases Wu.1 ((h x).1 (WH ..)) with e | e
   ·exact e
   ·rcases Wu.1 ((h y).2 (WH ..)) with k | k
    ·exact k.symm
    ·exact absurd (g (i.1 y k) (j.1 x e)) (d x)
  subst e;rw[asc_ext d g i.2 j.2 λz=>?_];constructor
  ·intro f;rcases Wu.1 ((h z).1 (Wp _ f)) with e | e
   ·subst e;exact absurd (i.1 z f) (d z)
   ·exact e
  ·intro f;rcases Wu.1 ((h z).2 (Wp _ f)) with e | e
   ·subst e;exact absurd (j.1 z f) (d z)
   ·exact e
theorem Asc.ext{a b:List Int}(c:Asc a)(d:Asc b)(h:∀ x,x∈a<->x∈b):a=b:=asc_ext (λa=>by omega) (λh k=>by omega) (Asc.pw.1 c) (Asc.pw.1 d) h
theorem Ql.uniq{l:List Qe}(h:Ql l){x y:Qe}(d:x∈l)(c:y∈l)(f:x.frm=y.frm)(e:x.to=y.to):x=y:=by
 obtain ⟨i,a,rfl⟩:=WL.1 d;obtain ⟨j,b,rfl⟩:=WL.1 c;rcases UZ i j with k | k | k
 ·rcases h.lt k b with q | q <;> omega
 ·subst k;rfl
 ·rcases h.lt k a with q | q <;> omega
theorem Ql.ext{a b:List Qe}(c:Ql a)(d:Ql b)(h:∀ f t s,InS a f t s<->InS b f t s):a=b:=by
 have g:∀ {a b:List Qe},Ql a->Ql b->(∀ f t s,InS a f t s<->InS b f t s)->∀ x∈a,x∈b:=by
  intro a b c d h x j;have q:=(c.1 x j).2.2.1;obtain ⟨y,l,m,n,w⟩:=(h x.frm x.to x.slots[0]).1 ⟨x,j,rfl,rfl,Wc q⟩;have e:x.slots=y.slots:=Asc.ext (c.1 x j).2.2.2.2 (d.1 y l).2.2.2.2 λv=>by
   constructor
   ·intro p;obtain ⟨z,o,r,u,i⟩:=(h x.frm x.to v).1 ⟨x,j,rfl,rfl,p⟩;rw[d.uniq o l Oo Oo]at i;exact i
   ·intro p;obtain ⟨z,o,r,u,i⟩:=(h x.frm x.to v).2 ⟨y,l,m,n,p⟩;rw[c.uniq o j Oo Oo]at i;exact i
  have:x=y:=by cases x;cases y;dsimp only at m n e;subst m;subst n;subst e;rfl
  rw[this];exact l
 exact asc_ext (R:=QL) (λa h=>h.irrefl) (λh k=>h.trans k) (Ql.pw.1 c).2 (Ql.pw.1 d).2 λx=>⟨g c d h x,g d c (λf t s=>(h f t s).symm) x⟩
theorem asc_len{l:List Int}(h:∀ i j (hi:i<l.length) (hj:j<l.length),i<j->l[i]<l[j]){n:Nat}(d:∀ x∈l,0<=x/\x<n):l.length<=n:=by
 have:=Qdp n (l.map Int.toNat) ?_ ?_
 ·rwa [Wb]at this
 ·rw[Vd,Vs];refine WA.2 λa b f g c e=>?_;have o:=h a b f g c;have p:=d _ (Wc f);have q:=d _ (Wc g);omega
 ·intro x m;obtain ⟨y,k,rfl⟩:=Wm.1 m;have:=d y k;omega
theorem Asc.lt'{l:List Int}(h:Asc l):∀ i j (c:i<l.length) (b:j<l.length),i<j->l[i]<l[j]:=λi j c b a=>h.lt a b
theorem Ql.len{l:List Qe}(h:Ql l):l.length<=4096:=by
 have:=asc_len (l:=l.map λx=>x.frm*64+x.to) (n:=4096) (λi j f c d=>?_) (λx k=>?_)
 ·rwa [Wb]at this
 ·rw[Wb]at f c;rw[Vt,Vt];have b:=h.lt d c;have a:=(h.1 _ (Wc f)).rng;have e:=(h.1 _ (Wc c)).rng;have:=a.t1;have:=a.t0;have:=e.t0;have:=e.t1;rcases b with b | ⟨b,m⟩ <;> omega
 ·obtain ⟨y,g,rfl⟩:=Wm.1 k;have a:=(h.1 y g).rng;have:=a.t1;have:=a.t0;have:=a.f0;have:=a.f1;omega
def Qg3(l:List Qe):Prop:=l.length<=100000/\∀ x∈l,x.slots.length<=100000
def ZK(l:List Qe):Prop:=∀ x∈l,∀ y∈x.slots,0<=y/\y<16384
theorem Ql.slots{l:List Qe}(h:Ql l)(c:ZK l):∀ x∈l,x.slots.length<=16384:=λx a=>asc_len ((h.1 x a).2.2.2.2.lt') (n:=16384) λy b=>c x a y b
theorem Ql.sz{l:List Qe}(h:Ql l)(b:ZK l):Qg3 l:=⟨by have:=h.len;omega,λx a=>by have:=h.slots b x a;omega⟩
def witL(t:List Int)(l:List Int):List Int:=l.foldl Qcd t
theorem withI_asc{l:List Int}(h:Asc l)(v:Int):Asc (Qcd l v):=by
 rw[Asc.pw]at h ⊢;unfold Qcd;split
 ·exact h
 ·rename_i hn;have b:=Asc.pw.2 h;refine Qgu h (QeN l v) (λj a c=>posI_lt a c) λj a c=>?_;have f:=posI_ge b a c;by_cases e:l[j]=v
  ·exfalso;apply hn;have d:QbW l v=j:=by
    rcases Ws (QbW l v) j with h3 | h3
    ·have g:=posI_ge b (show QbW l v<l.length by omega) (Wl _);have i:=b.lt h3 a;omega
    ·omega
   exact ⟨Oo,by simp only[d];exact e⟩
  ·omega
theorem witL_ok:∀ (l t:List Int),Asc t->Asc (witL t l)/\∀ y,y∈witL t l<->y∈t\/y∈l
 | [],t,h=>⟨h,λy=>by simp[witL]⟩
 | v :: l,t,h=>by
  obtain ⟨a,b⟩:=witL_ok l (Qcd t v) (withI_asc h v);refine ⟨a,λy=>(b y).trans ?_⟩;rw[QcW,Wu];constructor
  ·rintro ((k | k) | k)
   ·exact .inr (.inl k)
   ·exact .inl k
   ·exact .inr (.inr k)
  ·rintro (k | k | k)
   ·exact .inl (.inr k)
   ·exact .inl (.inl k)
   ·exact .inr k
def QeT(l:List Qe)(fr:List Int):List Qe:=l.filter λx=>decide (x.to∈fr) && !decide (x.frm∈fr)
def intoL(l:List Qe)(fr:List Int):List Int:=(QeT l fr).foldl (λt x=>witL t x.slots) []
def intoN(l:List Qe)(fr:List Int):Int:=(QeT l fr).foldl (λ(n:Int) (x:Qe)=>n+(x.slots.length:Int)) 0
theorem asc_le{l:List Int}(h:Asc l)(a:∀ y∈l,0<=y/\y<16384):l.length<=16384:=asc_len h.lt' (n:=16384) a
theorem into18_c{l:List Qe}(w:Ql l)(z:ZK l)(fr:List Int)(G:fr.length<=65536):QaO l fr=some (intoL l fr,intoN l fr):=by
 have q:=w.len;have g:=w.slots z;refine Gd.eq ?_;unfold QaO;refine Gd.bind (P:=λb=>b=(intoL l fr,intoN l fr)) ?_ λb d=>.some (by rw[d]);refine Gd.for l.length (λ(t:List Int×Int) i=>(t.1,t.2,i)) (λi t=>t=((QeT (l.take i) fr).foldl (λt x=>witL t x.slots) [],(QeT (l.take i) fr).foldl (λ(n:Int) (x:Qe)=>n+(x.slots.length:Int)) 0)/\Asc t.1/\(∀ y∈t.1,0<=y/\y<16384)/\0<=t.2/\t.2<=16384*i) ([],0) rfl (λ_ _=>rfl) Oo
  ⟨by simp[QeT],λi h=>absurd h (WT _),λy hy=>absurd hy (WV),Oo,Oo⟩ (λi a t p=>?_) (λt p=>?_)
 ·obtain ⟨c,m,o,B,F⟩:=p;have E:=g _ (Wc a);have f:=z _ (Wc a);have A:QeT (l.take (i+1)) fr=if (decide (l[i].to∈fr) && !decide (l[i].frm∈fr))=true then QeT (l.take i) fr++[l[i]] else QeT (l.take i) fr:=by
   unfold QeT;rw[QC a,W4];by_cases h:(decide (l[i].to∈fr) && !decide (l[i].frm∈fr))=true
   ·rw[if_pos h];simp[h]
   ·rw[if_neg h];simp[h]
  refine Gd.bind (P:=λb:List Int×Int=>b=if (decide (l[i].to∈fr) && !decide (l[i].frm∈fr))=true then(witL t.1 l[i].slots,t.2+l[i].slots.length) else t) ?_ λb d=>?_
  ·refine .atN a ?_;refine .call (rin_c _ _ Oo) ?_;refine .ite (λh=>?_) λh=>.some (by rw[if_neg (by simp[h])]);refine .call (rin_c _ _ Oo) ?_;refine .ite (λk=>.some (by rw[if_neg (by simp[k])])) λk=>?_;rw[if_pos (by rw[h];simp[k])];refine Gd.fold l[i].slots (λ(t:List Int) i=>(t,i)) Qcd t.1 (λ_ t=>Asc t/\∀ y∈t,0<=y/\y<16384) rfl (λ_ _=>rfl) Oo ⟨m,o⟩ (λj v u e=>⟨⟨withI_asc e.1 _,λy hy=>?_⟩,?_⟩) (λe=>?_)
   ·rcases QcW.1 hy with rfl | hy
    ·exact f _ (Wc v)
    ·exact e.2 y hy
   ·refine .atN v (.call (with_c e.1 (by have:=asc_le e.1 e.2;omega) _) (.some rfl))
   ·dsimp only;rw[Qb Oo];rfl
  ·refine .some (.inl ⟨b,rfl,?_⟩);rw[A];by_cases h:(decide (l[i].to∈fr) && !decide (l[i].frm∈fr))=true
   ·rw[if_pos h]at d ⊢;have r:=congrArg Prod.fst c;have s:=congrArg Prod.snd c;dsimp only at r s;rw[d,Uo,Uo,<- r,<- s];obtain ⟨C,D⟩:=witL_ok l[i].slots t.1 m;exact ⟨rfl,C,λy hy=>((D y).1 hy).elim (o y) (f y),by dsimp only;omega,by dsimp only;omega⟩
   ·rw[if_neg h]at d ⊢;rw[d];exact ⟨c,m,o,B,Oo⟩
 ·obtain ⟨c,_⟩:=p;rw[WQ]at c;rw[c];rfl
def QaE(s:Sp)(l:List Qe)(c:List Inc):List Int:=(intoL l ((cfr s.fs c).map λ(k:Nat)=>(k:Int))).filter λ(x:Int)=>bP (x<(s.ws.length:Int)/\Qeq s c (wAt s x))
theorem cfr_len(fs:List Fe)(c:List Inc):(cfr fs c).length<=fs.length:=by have:=W9 (isC fs c) (List.range fs.length);rw[WS]at this;exact this
theorem intoS_mem{l:List Qe}{fr:List Int}{x:Qe}:x∈QeT l fr<->x∈l/\x.to∈fr/\¬ x.frm∈fr:=by unfold QeT;rw[WX];simp
theorem intoF_ok:∀ (l:List Qe) (t:List Int),Asc t->Asc (l.foldl (λt x=>witL t x.slots) t)/\∀ y,y∈l.foldl (λt x=>witL t x.slots) t<->y∈t\/∃ x∈l,y∈x.slots
 | [],t,h=>⟨h,λy=>by simp⟩
 | x :: l,t,h=>by
  obtain ⟨a,b⟩:=witL_ok x.slots t h;obtain ⟨c,d⟩:=intoF_ok l (witL t x.slots) a;refine ⟨c,λy=>(d y).trans ?_⟩;rw[b];constructor
  ·rintro ((k | k) | ⟨z,hz,k⟩)
   ·exact .inl k
   ·exact .inr ⟨x,WH ..,k⟩
   ·exact .inr ⟨z,Wp _ hz,k⟩
  ·rintro (k | ⟨z,hz,k⟩)
   ·exact .inl (.inl k)
   ·rcases Wu.1 hz with rfl | hz
    ·exact .inl (.inr k)
    ·exact .inr ⟨z,hz,k⟩
theorem QgH(l:List Qe)(fr:List Int):Asc (intoL l fr):=(intoF_ok (QeT l fr) [] λi h=>absurd h (WT _)).1
theorem QgB{l:List Qe}{fr:List Int}{y:Int}:y∈intoL l fr<->∃ x∈l,x.to∈fr/\¬ x.frm∈fr/\y∈x.slots:=by
 refine ((intoF_ok (QeT l fr) [] λi h=>absurd h (WT _)).2 y).trans ?_;constructor
 ·rintro (h | ⟨x,hx,h⟩)
  ·cases h
  ·have:=intoS_mem.1 hx;exact ⟨x,this.1,this.2.1,this.2.2,h⟩
 ·rintro ⟨x,a,b,c,d⟩;exact .inr ⟨x,intoS_mem.2 ⟨a,b,c⟩,d⟩
theorem intoL_rng{l:List Qe}(c:ZK l){fr:List Int}:∀ y∈intoL l fr,0<=y/\y<16384:=λy b=>by obtain ⟨x,a,_,_,h⟩:=QgB.1 b;exact c x a y h
theorem QgR{s:Sp}(j:Zn s)(r:SpW s){l:List Qe}(u:Ql l)(f:ZK l)(c:List Inc)(m:c.length<=9223372036854775806):ZG s l c=some (QaE s l c,intoN l ((cfr s.fs c).map λ(k:Nat)=>(k:Int))):=by
 have n:=j.shp.hi;have o:=XF j;have p:=cfr_len s.fs c;refine Gd.eq ?_;unfold ZG;refine .call (QeV s c Oo m) ?_;refine .call (into18_c u f _ (by rw[Wb];omega)) ?_;have g:=intoL_rng (l:=l) f (fr:=(cfr s.fs c).map λ(k:Nat)=>(k:Int));have d:=asc_le (QgH l ((cfr s.fs c).map λ(k:Nat)=>(k:Int))) g;unfold QaE;generalize (cfr s.fs c).map (λ(k:Nat)=>(k:Int))=fr at g d ⊢;dsimp only;refine Gd.bind (P:=λb=>b=(intoL l fr).filter λ(x:Int)=>bP (x<(s.ws.length:Int)/\Qeq s c (wAt s x))) ?_ λb q=>.some (by rw[q]);refine Gd.fold (intoL l fr) (λ(t:List Int) i=>(t,i)) (λt x=>if bP (x<(s.ws.length:Int)/\Qeq s c (wAt s x))=true then t++[x] else t) [] (λi t=>t.length<=i) rfl (λ_ _=>rfl) Oo Os (λi f t v=>?_) (λ_=>?_)
 ·refine ⟨?_,?_⟩
  ·split
   ·rw[We,WJ];omega
   ·omega
  ·have e:=g _ (Wc f);refine .atN f ?_;refine .ite (λa=>?_) λa=>.some (by rw[if_neg];rw[QI];exact λk=>a k.1);refine .at e.1 Oo ?_;rw[<- QcC e.1 Oo];refine .call (Qdm j c m (Qfo r _)) ?_;refine .ite (λh=>.pos (XP (l:=t) Oo Oo) (.some (by rw[if_pos];rw[QI];exact ⟨a,QI.1 h⟩))) λh=>.some (by rw[if_neg];rw[QI];exact λk=>h (QI.2 k.2))
 ·exact Qc2 _ _ _
def Qat(l:List Qe)(fr:List Int):List Qe:=l.filter λx=>!decide (x.frm∈fr) && !decide (x.to∈fr)
theorem drop18_c{l:List Qe}(a:Qg3 l)(fr:List Int)(j:fr.length<=65536):JO l fr=some (Qat l fr):=by
 have c:=a.1;refine Gd.eq ?_;unfold JO;refine Gd.bind (P:=λb=>b=Qat l fr) ?_ λb d=>.some d;refine .call (rcopy_c l Oo λx e=>by have:=a.2 x e;omega) ?_;refine Gd.fold l (λ(t:List Qe) i=>(t,i)) (λt x=>if (!decide (x.frm∈fr) && !decide (x.to∈fr))=true then t++[x] else t) [] (λi t=>t.length<=i) rfl (λ_ _=>rfl) Oo Os (λi f t g=>?_) (λ_=>?_)
 ·refine ⟨?_,?_⟩
  ·split
   ·rw[We,WJ];omega
   ·omega
  ·refine .atN f ?_;refine .call (rin_c _ _ Oo) ?_;refine .ite (λh=>.some (by rw[if_neg (by simp[h])])) λh=>?_;refine .call (rin_c _ _ Oo) ?_;refine .ite (λk=>.some (by rw[if_neg (by simp[k])])) λk=>.pos (XP (l:=t) Oo Oo) (.some (by rw[if_pos (by simp[h,k])]))
 ·exact Qc2 _ _ _
theorem J0{l:List Qe}{fr:List Int}{x:Qe}:x∈Qat l fr<->x∈l/\¬ x.frm∈fr/\¬ x.to∈fr:=by unfold Qat;rw[WX];simp
theorem Qdu{l:List Qe}(h:Ql l)(fr:List Int):Ql (Qat l fr):=by rw[Ql.pw]at h ⊢;exact ⟨λx a=>h.1 x (J0.1 a).1,h.2.filter _⟩
theorem InS_drop{l:List Qe}{fr:List Int}{f t s:Int}:InS (Qat l fr) f t s<->InS l f t s/\¬ f∈fr/\¬ t∈fr:=by
 constructor
 ·rintro ⟨x,a,rfl,rfl,h⟩;have:=J0.1 a;exact ⟨⟨x,this.1,rfl,rfl,h⟩,this.2⟩
 ·rintro ⟨⟨x,a,rfl,rfl,h⟩,k⟩;exact ⟨x,J0.2 ⟨a,k⟩,rfl,rfl,h⟩
def Qck(s:Sp)(l:List Qe)(p w:Int):List Qe:=open Classical in if Qby s p w then putK l (Jn s p) (Jn s (w-1)) p else l
theorem Qby.rng{s:Sp}(a:Zn s){p w:Int}(h:Qby s p w):(0:Int)<=(Jn s p:Int)/\(Jn s p:Int)<64/\(0:Int)<=(Jn s (w-1):Int)/\(Jn s (w-1):Int)<64/\0<=p/\p<16384:=by obtain ⟨⟨b,c,d,e⟩,f,g,_⟩:=h;have:=a.shp.hi;have:=XF a;omega
theorem noteK_ok{s:Sp}(g:Zn s){l:List Qe}(a:Ql l)(b:ZK l)(p w:Int):Ql (Qck s l p w)/\ZK (Qck s l p w)/\∀ f t q,InS (Qck s l p w) f t q<->InS l f t q\/(Qby s p w/\f=Jn s p/\t=Jn s (w-1)/\q=p):=by
 unfold Qck;split
 ·rename_i h;obtain ⟨r1,r2,r3,r4,r5,r6⟩:=h.rng g;refine ⟨(putK_ok a ⟨r1,r2⟩ ⟨r3,r4⟩ r5).1,λx d y e=>?_,λf t q=>?_⟩
  ·rcases InS_put.1 (⟨x,d,rfl,rfl,e⟩:InS _ _ _ _) with ⟨_,_,rfl⟩ | ⟨z,c,_,_,k⟩
   ·omega
   ·exact b z c y k
  ·rw[InS_put];constructor
   ·rintro (k | k)
    ·exact .inr ⟨h,k⟩
    ·exact .inl k
   ·rintro (k | k)
    ·exact .inr k
    ·exact .inl k.2
 ·rename_i h;exact ⟨a,b,λf t q=>⟨.inl,λk=>k.elim id λk=>absurd k.1 h⟩⟩
theorem note19_c{s:Sp}(b:Zn s){l:List Qe}(d:Ql l)(a:Qg3 l){p w:Int}(c:U64 w):Q9 s l p w=some (Qck s l p w):=by
 refine Gd.eq ?_;unfold Q9 Qck;refine .call (rpair_c b c) ?_;by_cases h:¬ w=0/\w<=s.ws.length/\0<=p/\p<s.ws.length
 ·rw[if_pos h];dsimp only;refine .ite (λk=>?_) λk=>?_
  ·rw[if_pos (QI.1 k)];exact .call (put_c d a.1 a.2 _ _ _) (.some rfl)
  ·rw[if_neg λq=>k (Qa5 q)];exact .some rfl
 ·rw[if_neg h,if_neg λk=>h k.1];exact .neg Os (.some rfl)
def ZX(s:Sp)(l:List Qe)(ps:List Int):List Qe:=ps.foldl (λl p=>Qck s l p (wAt s p)) l
theorem Qcj{s:Sp}(a:Zn s):∀ (ps:List Int) {l:List Qe},Ql l->ZK l->Ql (ZX s l ps)/\ZK (ZX s l ps)/\∀ f t q,InS (ZX s l ps) f t q<->InS l f t q\/(q∈ps/\Qby s q (wAt s q)/\f=Jn s q/\t=Jn s (wAt s q-1))
 | [],l,hl,hi=>⟨hl,hi,λf t q=>⟨.inl,λk=>k.elim id λk=>absurd k.1 (WV)⟩⟩
 | p :: ps,l,hl,hi=>by
  obtain ⟨b,c,d⟩:=noteK_ok a hl hi p (wAt s p);obtain ⟨e,g,h⟩:=Qcj a ps b c;refine ⟨e,g,λf t q=>(h f t q).trans ?_⟩;rw[d];constructor
  ·rintro ((k | ⟨k4,k5,k6,rfl⟩) | ⟨k,k4⟩)
   ·exact .inl k
   ·exact .inr ⟨WH ..,k4,k5,k6⟩
   ·exact .inr ⟨Wp _ k,k4⟩
  ·rintro (k | ⟨k,k4,k5,k6⟩)
   ·exact .inl (.inl k)
   ·rcases Wu.1 k with rfl | k
    ·exact .inl (.inr ⟨k4,k5,k6,rfl⟩)
    ·exact .inr ⟨k,k4,k5,k6⟩
def movF(s:Sp)(mv:List Mov):List Int:=mv.flatMap λm=>(QbX s m.to).1
def renK(s:Sp)(l:List Qe)(c:List Inc)(ps:List Int)(mv:List Mov):List Qe:=ZX s (ZX s (Qat l ((cfr s.fs c).map λ(k:Nat)=>(k:Int))) ps) (movF s mv)
theorem flds_rng{s:Sp}(c:Zn s)(g:SpW s){a:Int}:(QbX s a).1.length<=15/\∀ p∈(QbX s a).1,0<=p/\p<s.ws.length:=by
 unfold QbX;split
 ·rename_i h;obtain ⟨d,e⟩:=Qf5 g h;unfold QeG at d;refine ⟨by rw[fldL_len];omega,λp b=>?_⟩;unfold fldL at b;obtain ⟨j,f,rfl⟩:=Wm.1 b;rw[WE]at f;exact Qg4 c.shp (Q2 c.fm) (Qgj c.shp (Q2 c.fm) e Oo Oo)
 ·exact ⟨Os,λp b=>absurd b (WV)⟩
theorem note_loop{s:Sp}(d:Zn s)(h:SpW s){Q:List Qe->Prop}{ps:List Int}(g:∀ p∈ps,0<=p/\p<s.ws.length)(m:ps.length<=9223372036854775806){l:List Qe}(j:Ql l)(b:ZK l)(k:Q (ZX s l ps)) :
  Gd Q (Qf (λ(s6:List Qe×Int) =>
   if s6.2<(ps.length:Int) then
   ((at_ ps s6.2).bind λv11 =>
   (at_ s.ws v11).bind λv12 =>
   (Q9 s s6.1 v11 v12).bind λv13 =>
   some (LS.go ((v13,w64 (s6.2+1)))))
   else
   some (LS.out (s6.1))) (l,0)):=by
 refine Gd.fold ps (λ(t:List Qe) i=>(t,i)) (λl p=>Qck s l p (wAt s p)) l (λ_ t=>Ql t/\ZK t) rfl (λ_ _=>rfl) m ⟨j,b⟩ (λi b t a=>?_) (λ_=>k);have c:=g _ (Wc b);obtain ⟨e,f,_⟩:=noteK_ok d a.1 a.2 ps[i] (wAt s ps[i]);refine ⟨⟨e,f⟩,?_⟩;refine .atN b (.at c.1 Oo ?_);rw[<- QcC c.1 Oo];exact .call (note19_c d a.1 (a.1.sz a.2) (Qfo h _)) (.some rfl)
theorem QeY{α β γ:Type}(f:α->List β)(g:γ->β->γ):∀ (l:List α) (t:γ),(l.flatMap f).foldl g t=l.foldl (λt a=>(f a).foldl g t) t
 | [],t=>rfl
 | a :: l,t=>by rw[Yk,Uo];exact QeY f g l _
theorem renew24_c{s:Sp}(d:Zn s)(h:SpW s){l:List Qe}(q:Ql l)(f:ZK l)(c:List Inc)(E:c.length<=9223372036854775806){ps:List Int}(C:∀ p∈ps,0<=p/\p<s.ws.length)(F:ps.length<=9223372036854775806){mv:List Mov}(D:∀ m∈mv,I64 m.to)(o:mv.length<=9223372036854775806) :
  Zp s l c ps mv=some (renK s l c ps mv):=by have r:=d.shp.hi;have u:=cfr_len s.fs c;refine Gd.eq ?_;unfold Zp renK;refine .call (QeV s c Oo E) ?_;refine .call (drop18_c (q.sz f) _ (by rw[Wb];omega)) ?_;have j:=Qdu q ((cfr s.fs c).map λ(k:Nat)=>(k:Int));have n:ZK (Qat l ((cfr s.fs c).map λ(k:Nat)=>(k:Int))):=λx B=>f x (J0.1 B).1;generalize (cfr s.fs c).map (λ(k:Nat)=>(k:Int))=fr at j n ⊢;refine Gd.bind (P:=λb=>b=ZX s (Qat l fr) ps) (note_loop d h C F j n rfl) λb e=>?_;obtain ⟨v,w,_⟩:=Qcj d ps j n;subst e;refine Gd.bind (P:=λb=>b=ZX s (ZX s (Qat l fr) ps) (movF s mv)) ?_ λb e=>.some e;unfold movF;rw[show ZX s (ZX s (Qat l fr) ps) (mv.flatMap λm=>(QbX s m.to).1)=mv.foldl (λt m=>ZX s t (QbX s m.to).1) (ZX s (Qat l fr) ps) from QeY _ _ _ _];refine Gd.fold mv (λ(t:List Qe) i=>(t,i)) (λt m=>ZX s t (QbX s m.to).1) _ (λ_ t=>Ql t/\ZK t) rfl (λ_ _=>rfl) o ⟨v,w⟩ (λi f t g=>?_) (λ_=>rfl);obtain ⟨G,y⟩:=flds_rng d h (a:=mv[i].to);obtain ⟨z,A,_⟩:=Qcj d (QbX s mv[i].to).1 g.1 g.2;refine ⟨⟨z,A⟩,?_⟩;refine Gd.bind (P:=λb=>b=ZX s t (QbX s mv[i].to).1) ?_ λb e=>.some (by rw[e]);refine .atN f ?_;refine .call (Qei d.shp (Q2 d.fm) h (D _ (Wc f))) ?_;exact note_loop d h y Oo g.1 g.2 rfl
abbrev inc0:Inc:=⟨0,0,0,0,0⟩
def BSz(B:List (List Inc)):Prop:=B.length<=64/\∀ q∈B,q.length<=10000
theorem BSz.flat{B:List (List Inc)}(h:BSz B):B.flatten.length<=640000:=by
 have b:∀ (l:List (List Inc)),(∀ q∈l,q.length<=10000)->l.flatten.length<=l.length*10000:=by
  intro l;induction l with
  | nil=>intro _;simp
  | cons a l ih =>intro h;have d:=h a (WH ..);have e:=ih λq c=>h q (Wp _ c);rw[Vr,We,W3];omega
 have:=b B h.2;have:=h.1;omega
theorem Qgd{B:List (List Inc)}(h:BSz B):Zc B=some B:=by
 have f:=h.1;refine Gd.eq ?_;unfold Zc;refine Gd.bind (P:=λb=>b=B) ?_ λb e=>.some e;refine Gd.for B.length (λ(t:List (List Inc)) i=>(t,i)) (λi t=>t=B.take i) [] rfl (λ_ _=>rfl) Oo Os (λi c t a=>?_) (λt a=>?_)
 ·have g:=h.2 _ (Wc c);refine .atN c (.pos (len_in Oo Oo) ?_);have d:t.length<=64:=by rw[a,Wf];omega
  refine .pos (by show ((t.length:Int)+1)*24<=140737488355328/\(t.length:Int)+1<=9223372036854775807;omega) (.some (.inl ⟨_,rfl,?_⟩));rw[QC c,a]
 ·rw[WQ]at a;exact a
def yngR(B:List (List Inc))(b:Int):Option Inc:=if b<0 then none else(B[b.toNat]?).bind List.getLast?
def optI:Option Inc->Inc×Bool
 | none=>(inc0,false)
 | some x=>(x,true)
theorem Qdl{B:List (List Inc)}(h:BSz B)(b:Int):QX B b=some (optI (yngR B b)):=by
 refine Gd.eq ?_;unfold QX yngR;refine .ite (λc=>.some (by rw[if_pos c];rfl)) λc=>?_;rw[if_neg c];refine .ite (λe=>.some (by rw[Wi Oo];rfl)) λe=>?_;have a:b.toNat<B.length:=by omega
 have g:=h.2 _ (Wc a);refine .at Oo a ?_;rw[Wa a,WB];refine .ite (λf=>.some (by rw[Un (show B[b.toNat].length=0 by omega)];rfl)) λf=>?_;have d:w64 ((B[b.toNat].length:Int)-1)=((B[b.toNat].length-1:Nat):Int):=by rw[Qb Oo];omega
 rw[d];refine .atN Oo (.some ?_);rw[List.getLast?_eq_getElem?,Wa Oo];rfl
theorem find11_c{B:List (List Inc)}(h:BSz B)(q:Int):JR B q=some (optI (B.flatten.find? λx=>decide (x.seq=q))):=by
 have s:=h.1;refine Gd.eq ?_;unfold JR;have a:∀ l:List Inc,(∀ x∈l,¬ x.seq=q)->l.find? (λx=>decide (x.seq=q))=none:=λl f=>Yf.2 λx hx=>by simpa using f x hx
 refine Gd.bndR (P:=λz=>(z = .inl ()/\∀ x∈B.flatten,¬ x.seq=q)\/z = .inr (optI (B.flatten.find? λx=>decide (x.seq=q)))) ?_ (λ_ hP=>?_) (λr hP=>?_)
 ·refine Gd.for B.length (λ(_:Unit) i=>i) (λi _=>∀ x∈(B.take i).flatten,¬ x.seq=q) () rfl (λ_ _=>rfl) Oo Os (λi c t b=>?_) (λt b=>?_)
  ·have f:=h.2 _ (Wc c);have g:=congrArg List.flatten (show B=B.take i++B[i] :: B.drop (i+1) by rw[<- Vi c,Vn]);rw[UL,Vr]at g;refine Gd.bndR (P:=λz=>(z = .inl ()/\∀ x∈B[i],¬ x.seq=q)\/z = .inr (.out (.inr (optI (B.flatten.find? λx=>decide (x.seq=q)))))) ?_ (λ_ hP=>?_) (λr hP=>?_)
   ·refine .atN c ?_;refine Gd.find B[i] (λx=>x.seq=q) Oo (λj m e=>?_) (λe=>.inl ⟨rfl,e⟩);refine .atN m (.ite (λd=>.some (.inr ⟨d,_,rfl,.inr ?_⟩)) λd=>.some (.inl ⟨d,rfl⟩));have n:B[i].find? (λx=>decide (x.seq=q))=some B[i][j]:=by rw[Yq];exact ⟨by simpa using d,j,m,rfl,λk p=>by simpa using e k Oo p⟩
    have o:B.flatten.find? (λx=>decide (x.seq=q))=some B[i][j]:=by rw[g,List.find?_append,a _ b,List.find?_append,n];rfl
    rw[o];rfl
   ·rcases hP with ⟨_,hP⟩ | hP
    ·refine .some (.inl ⟨(),rfl,λx hx=>?_⟩);rw[QC c,UL]at hx;rcases Wk.1 hx with hx | hx
     ·exact b x hx
     ·exact hP x (by simpa using hx)
    ·cases hP
   ·rcases hP with ⟨hP,_⟩ | hP
    ·cases hP
    ·injection hP with hP;exact .inr ⟨_,hP,.inr rfl⟩
  ·rw[WQ]at b;exact .inl ⟨rfl,b⟩
 ·rcases hP with ⟨_,hP⟩ | hP
  ·exact .some (by rw[a _ hP];rfl)
  ·cases hP
 ·rcases hP with ⟨hP,_⟩ | hP
  ·cases hP
  ·injection hP with hP
theorem all15_c{B:List (List Inc)}(h:BSz B):JF B=some B.flatten:=by
 have f:=h.1;refine Gd.eq ?_;unfold JF;refine Gd.bind (P:=λb=>b=B.flatten) ?_ λb d=>.some d;refine Gd.for B.length (λ(t:List Inc) i=>(t,i)) (λi t=>t=(B.take i).flatten) [] rfl (λ_ _=>rfl) Oo Os (λi c t a=>?_) (λt a=>?_)
 ·have g:=h.2 _ (Wc c);have j:t.length<=640000:=by rw[a];exact BSz.flat (B:=B.take i) ⟨by rw[Wf];omega,λq e=>h.2 q (VJ e)⟩
  refine .atN c (.pos (appL_in (l:=t) Oo Oo) (.some (.inl ⟨_,rfl,?_⟩)));rw[QC c,UL,a];simp
 ·rw[WQ]at a;exact a
def addB(B:List (List Inc))(i:Inc):List (List Inc):=B.modify i.belt.toNat λq=>q++[i]
theorem QeK{α:Type}{l:List α}{n:Nat}(h:n<l.length)(f:α->α):l.set n (f l[n])=l.modify n f:=by
 apply Ud;intro k;rw[Up,Vf];by_cases e:n=k
 ·subst e;simp[h,Wa h]
 ·simp[e]
theorem add11_c{B:List (List Inc)}(h:BSz B){i:Inc}(e:0<=i.belt/\i.belt<B.length)(d:∀ y,yngR B i.belt=some y->y.seq<i.seq):XY B i=some (addB B i,0):=by
 have a:i.belt.toNat<B.length:=by omega
 have f:=h.2 _ (Wc a);refine Gd.eq ?_;unfold XY;refine .neg Oo (.neg Oo (.call (Qdl h _) ?_));have fin:Gd (λx=>x=(addB B i,(0:Int))) ((Zc B).bind λc=>(at_ c i.belt).bind λb =>
   if ((b.length:Int)+[i].length)*40<=140737488355328/\(b.length:Int)+[i].length<=9223372036854775807 then
   some ((c.set (Int.toNat i.belt) (b++[i]),0)) else none):=by
  refine .call (Qgd h) (.at e.1 a (.pos (XP Oo Oo) (.some ?_)))
  rw[QeK a λq=>q++[i]]
  rfl
 cases hyy:yngR B i.belt with
 | none=>exact .neg (by simp[optI]) fin
 | some y=>exact .pos rfl (.neg (by have:=d y hyy;show ¬ i.seq<=y.seq;omega) fin)
def repQ(i:Inc)(q:List Inc):List Inc:=q.map λx=>if x.seq=i.seq then i else x
theorem rep_at{q:List Inc}{i:Inc}(c:q.Pairwise λx y=>x.seq≠y.seq){k:Nat}(d:k<q.length)(h:q[k].seq=i.seq):q.set k i=repQ i q:=by
 unfold repQ;apply VR
 ·rw[Ww,Wb]
 ·intro j a f;rw[Vt];rw[Ww]at a;by_cases e:k=j
  ·subst e;rw[Ui,if_pos h]
  ·rw[VS e,if_neg];intro b;rcases Yc e with h3 | h3
   ·exact WA.1 c k j d a h3 (h.trans b.symm)
   ·exact WA.1 c j k a d h3 (b.trans h.symm)
def repB(B:List (List Inc))(i:Inc):List (List Inc):=B.modify i.belt.toNat (repQ i)
theorem Qgr{B:List (List Inc)}(h:BSz B){i:Inc}(m:0<=i.belt)(a:i.belt.toNat<B.length)(k:B[i.belt.toNat].Pairwise λx y=>x.seq≠y.seq)(l:∃ x∈B[i.belt.toNat],x.seq=i.seq):Zb B i=some (repB B i,0):=by
 have n:=h.2 _ (Wc a);refine Gd.eq ?_;unfold Zb;refine .neg Oo (.neg Oo (.call (Qgd h) ?_));refine Gd.bndR (P:=λz=>z = .inr (repB B i,0)) ?_ (λ_ c=>by cases c) (λr c=>by injection c);refine .at m a ?_;refine Gd.find B[i.belt.toNat] (λx=>x.seq=i.seq) Oo (λj d f=>?_) (λf=>?_)
 ·refine .atN d (.ite (λb=>.some (.inr ⟨b,_,rfl,?_⟩)) λb=>.some (.inl ⟨b,rfl⟩));rw[Wd,rep_at k d b,QeK a (repQ i)];rfl
 ·obtain ⟨x,g,e⟩:=l;exact absurd e (f x g)
def remB(B:List (List Inc))(q:Int):List (List Inc):=B.map λl=>l.filter λx=>!decide (x.seq=q)
theorem rem_at{q:List Inc}{n:Int}(g:q.Pairwise λx y=>x.seq≠y.seq){k:Nat}(d:k<q.length)(h:q[k].seq=n):q.take k++q.drop (k+1)=q.filter λx=>!decide (x.seq=n):=by
 have e:q=q.take k++q[k] :: q.drop (k+1):=by rw[<- Vi d,Vn]
 have i:∀ x∈q.take k,¬ x.seq=n:=λx a b=>by obtain ⟨j,c,rfl⟩:=WL.1 a;rw[Wf]at c;rw[UF]at b;exact WA.1 g j k Oo d Oo (b.trans h.symm)
 have l:∀ x∈q.drop (k+1),¬ x.seq=n:=λx a b=>by obtain ⟨j,c,rfl⟩:=WL.1 a;rw[Wv]at c;rw[UG]at b;exact WA.1 g k (k+1+j) d Oo Oo (h.trans b.symm)
 have f:=congrArg (List.filter λx:Inc=>!decide (x.seq=n)) e;have m:(q.take k).filter (λx:Inc=>!decide (x.seq=n))=q.take k:=VI.2 λx a=>by simpa using i x a
 have o:(q.drop (k+1)).filter (λx:Inc=>!decide (x.seq=n))=q.drop (k+1):=VI.2 λx a=>by simpa using l x a
 rw[W4,VB,m,o,if_neg (by simp[h])]at f;exact f.symm
theorem remove11_c{B:List (List Inc)}(h:BSz B)(q:Int)(p:B.flatten.Pairwise λx y=>x.seq≠y.seq)(E:∃ x∈B.flatten,x.seq=q):Z2 B q=some (remB B q,0):=by
 have F:=h.1;refine Gd.eq ?_;unfold Z2;refine .call (Qgd h) ?_;refine Gd.bndR (P:=λz=>z = .inr (remB B q,0)) ?_ (λ_ hP=>by cases hP) (λr hP=>by injection hP);refine Gd.for B.length (λ(_:Unit) i=>i) (λi _=>∀ x∈(B.take i).flatten,¬ x.seq=q) () rfl (λ_ _=>rfl) Oo Os (λi b t c=>?_) (λt c=>?_)
 ·have G:=h.2 _ (Wc b);have s:B=B.take i++B[i] :: B.drop (i+1):=by rw[<- Vi b,Vn]
  have n:=congrArg List.flatten s;rw[UL,Vr]at n;rw[n]at p;obtain ⟨_,v,H⟩:=Ve.1 p;obtain ⟨w,_,A⟩:=Ve.1 v;refine Gd.bndR (P:=λz=>(z = .inl ()/\∀ x∈B[i],¬ x.seq=q)\/z = .inr (.out (.inr (remB B q,0)))) ?_ (λ_ hP=>?_) (λr hP=>?_)
  ·refine .atN b ?_;refine Gd.find B[i] (λx=>x.seq=q) Oo (λj m o=>?_) (λo=>.inl ⟨rfl,o⟩);refine .atN m (.ite (λd=>?_) λd=>.some (.inl ⟨d,rfl⟩));have u:w64 ((j:Int)+1)=((j+1:Nat):Int):=Qb Oo;rw[u];refine .pos Oo (.pos Oo (.pos Oo (.pos (len_in Oo Oo) (.some (.inr ⟨d,_,rfl,.inr ?_⟩)))));rw[Wd,Wd,Wd,Wd,WQ,rem_at w m d];refine congrArg (λz=>Sum.inr (LS.out (Sum.inr (z,(0:Int))))) ?_;have f:∀ l∈B.take i,l.filter (λx=>!decide (x.seq=q))=l:=λl a=>VI.2 λx hx=>by simpa using c x (Vu.2 ⟨l,a,hx⟩)
   have g:∀ l∈B.drop (i+1),l.filter (λx=>!decide (x.seq=q))=l:=λl a=>VI.2 λx hx=>by have:=A _ (Wc m) x (Vu.2 ⟨l,a,hx⟩);simp only[VF,decide_eq_false_iff_not];exact λk=>this (d.trans k.symm)
   unfold remB;rw[QeK b λl=>l.filter λx=>!decide (x.seq=q)];apply Ud;intro k;rw[Vf,Wh];by_cases e:i=k
   ·subst e;simp
   ·cases hk:B[k]? with
    | none=>rfl
    | some l =>
     obtain ⟨C,D⟩:=Wo.1 hk;have:l.filter (λx=>!decide (x.seq=q))=l:=by
      rcases Yc e with h3 | h3
      ·refine g l ?_;rw[W8];exact ⟨k-(i+1),by rw[WW,show i+1+(k-(i+1))=k by omega,hk]⟩
      ·refine f l ?_;rw[W8];exact ⟨k,by rw[WM,if_pos Oo,hk]⟩
     simp[this,e]
  ·rcases hP with ⟨_,hP⟩ | hP
   ·refine .some (.inl ⟨(),rfl,λx hx=>?_⟩);rw[QC b,UL]at hx;rcases Wk.1 hx with hx | hx
    ·exact c x hx
    ·exact hP x (by simpa using hx)
   ·cases hP
  ·rcases hP with ⟨hP,_⟩ | hP
   ·cases hP
   ·injection hP with hP;exact .inr ⟨_,hP,rfl⟩
 ·rw[WQ]at c;obtain ⟨x,hx,e⟩:=E;exact absurd e (c x hx)
theorem Zn.nofree{s:Sp}(a:Zn s){f k:Nat}(b:f<s.fs.length)(i:s.fs[f].ow = -1)(c:k<s.fs.length):¬ s.fs[k].nx=(f:Int):=λe=>by
 rcases a.fm k c with h | h
 ·have:=h.2.2.1;omega
 ·obtain ⟨d,g⟩:=h.2.2.2.2 f b e;have:=h.1.1;omega
theorem Qcp{fs:List Fe}{n x:Nat}(a:x<fs.length):itF fs (n+1) (x:Int)=itF fs n fs[x].nx:=by show itF fs n (nxF fs x)=_;rw[nxF_at a]
theorem sp_link{s:Sp}(u:Zn s){f:Nat}(hf:f<s.fs.length)(h0:s.fs[f].ow = -1){q P:Int}(E:Stp q P)(v:Option Nat)
  (G:∀ l,v=some l->∃ h:l<s.fs.length,s.fs[l].nx = -1/\s.fs[l].ow=q/\s.fs[l].st=P){a:List Fe}(m:a.length=s.fs.length)(r:∀ h:f<a.length,a[f]=⟨q,P,-1⟩)
  (F:∀ k (h:k<s.fs.length) (h':k<a.length),k≠f->a[k].ow=s.fs[k].ow/\a[k].st=s.fs[k].st/\a[k].nx=if v=some k then(f:Int) else s.fs[k].nx):Zn ⟨s.sh,s.ws,a⟩:=by
 have o:f<a.length:=by omega
 have H:=λk z=>u.nofree hf h0 (k:=k) z;have Q:∀ i,ZeroF s i->ZeroF ⟨s.sh,s.ws,a⟩ i:=λi h=>h;have hq:0<=q:=E.1;have K:NxIn s.fs:=Q2 u.fm;refine ⟨⟨u.shp.sh,by show 2<=a.length;rw[m];exact u.shp.lo,by show a.length<=64;rw[m];exact u.shp.hi,by show s.ws.length=a.length*_;rw[m];exact u.shp.wl⟩,λi w=>?_,λi j w y O Z e=>?_,λi w=>?_⟩
 ·by_cases d:i=f
  ·subst d;refine .inr ?_;show QcL _ _ a[i];rw[r o];exact ⟨E,by show (-1:Int)<=-1;omega,by show (-1:Int)<a.length;omega,by show (-1:Int)≠i;omega,λj y e=>by have:(-1:Int)=j:=e;omega⟩
  ·have b:i<s.fs.length:=by have:i<a.length:=w;omega
   obtain ⟨I,J,c⟩:=F i b w d;rcases u.fm i b with h | h
   ·have p:¬ v=some i:=λe=>by obtain ⟨_,_,h2,_⟩:=G i e;have:=h.1;omega
    rw[if_neg p]at c;exact .inl ⟨I.trans h.1,J.trans h.2.1,c.trans h.2.2.1,Q i h.2.2.2⟩
   ·refine .inr ⟨by rw[I,J];exact h.1,?_⟩;by_cases p:v=some i
    ·rw[if_pos p]at c;obtain ⟨_,g1,R,S⟩:=G i p;refine ⟨by rw[c];omega,by rw[c];show (f:Int)<a.length;omega,by rw[c];omega,λj y e=>?_⟩;rw[c]at e;have:j=f:=by omega
     subst this;show a[j].ow=_/\a[j].st=_;rw[r o,I,J];exact ⟨R.symm,S.symm⟩
    ·rw[if_neg p]at c;obtain ⟨u1,T,u3,U,V⟩:=h;refine ⟨by rw[c];exact T,by rw[c];show _<(a.length:Int);omega,by rw[c];exact U,λj y e=>?_⟩;rw[c]at e;have g:j<s.fs.length:=by have:j<a.length:=y;omega
     have t:j≠f:=λC=>by subst C;exact H i b e
     obtain ⟨r1,r2,_⟩:=F j g y t;obtain ⟨W,X⟩:=V j g e;show a[j].ow=_/\a[j].st=_;rw[r1,r2,I,J];exact ⟨W,X⟩
 ·show a[i].nx = -1;have e:a[i].nx=a[j].nx:=e;have b:i<s.fs.length:=by have:i<a.length:=w;omega
  have g:j<s.fs.length:=by have:j<a.length:=y;omega
  by_cases d:i=f
  ·subst d;rw[r o]
  by_cases t:j=f
  ·subst t;rw[e,r o]
  obtain ⟨_,_,c⟩:=F i b w d;obtain ⟨_,_,r3⟩:=F j g y t;by_cases p:v=some i
  ·rw[if_pos p]at c;have:¬ v=some j:=λC=>by rw[p]at C;injection C with C;omega
   rw[if_neg this]at r3;exact absurd (r3.symm.trans (e.symm.trans c)) (H j g)
  ·rw[if_neg p]at c;by_cases D:v=some j
   ·rw[if_pos D]at r3;exact absurd (c.symm.trans (e.trans r3)) (H i b)
   ·rw[if_neg D]at r3;rw[c];exact u.uq i j b g O g (c.symm.trans (e.trans r3))
 ·have A:∀ n,itF a (n+1) (f:Int) = -1:=λn=>by rw[Qcp o,r o];exact XN n rfl
  have L:∀ n x,(x = -1\/∃ k:Nat,x=(k:Int)/\k<s.fs.length/\k≠f)->itF s.fs n x = -1->itF a (n+1) x = -1:=by
   intro n;induction n with
   | zero =>intro x _ h;exact XN 1 h
   | succ n ih =>
    intro x M h;rcases M with M | ⟨k,rfl,z,N⟩
    ·exact XN _ M
    ·have B:k<a.length:=by omega
     obtain ⟨_,_,c⟩:=F k z B N;rw[Qcp z]at h;rw[Qcp B,c];by_cases p:v=some k
     ·rw[if_pos p];exact A n
     ·rw[if_neg p];refine ih _ ?_ h;have hr:=K k z;by_cases Y:s.fs[k].nx = -1
      ·exact .inl Y
      ·refine .inr ⟨s.fs[k].nx.toNat,Oo,Oo,λe=>H k z Oo⟩
  show itF a (a.length+1) i = -1;rw[m];have b:i<s.fs.length:=by have:i<a.length:=w;omega
  by_cases d:i=f
  ·subst d;exact A _
  ·exact L _ _ (.inr ⟨i,rfl,b,d⟩) (end_len u b)
def Chn(fs:List Fe):List Nat->Prop
 | []=>True
 | f :: l=>∃ h:f<fs.length,fs[f].nx=(match l with | []=>-1 | g :: _=>(g:Int))/\Chn fs l
theorem Chn.lt{fs:List Fe}:∀ {l:List Nat},Chn fs l->∀ k∈l,k<fs.length
 | [],_,k,hk=>by cases hk
 | f :: l,h,k,hk=>by
  obtain ⟨a,_,b⟩:=h;rcases Wu.1 hk with rfl | hk
  ·exact a
  ·exact b.lt k hk
theorem Chn.it{fs:List Fe}:∀ {l:List Nat} {f:Nat},Chn fs (f :: l)->∀ j,itF fs j (f:Int)=match (f :: l)[j]? with | some k=>(k:Int) | none=>-1
 | l,f,_,0=>rfl
 | [],f,h,j+1=>by obtain ⟨a,b,_⟩:=h;rw[Qcp a,b];simp only[V7,List.getElem?_nil];exact XN j rfl
 | g :: l,f,h,j+1=>by obtain ⟨a,b,c⟩:=h;rw[Qcp a,b];show itF fs j (g:Int)=_;rw[c.it j,V7]
theorem Chn.congr{fs a:List Fe}(b:a.length=fs.length):∀ {l:List Nat},Chn fs l->(∀ k∈l,∀ (h:k<fs.length) (h':k<a.length),a[k].nx=fs[k].nx)->Chn a l
 | [],_,_=>trivial
 | f :: l,h,hk=>by obtain ⟨d,e,g⟩:=h;refine ⟨Oo,?_,g.congr b λk c=>hk k (Wp _ c)⟩;rw[hk f Os d Oo];exact e
theorem Chn.snoc{fs c:List Fe}{f:Nat}(j:c.length=fs.length)(r:f<fs.length)(m:∀ h:f<c.length,c[f].nx = -1):∀ {l:List Nat},Chn fs l->l.Nodup->f∉l ->
  (∀ k∈l,∀ (h:k<fs.length) (h':k<c.length),c[k].nx=if l.getLast?=some k then(f:Int) else fs[k].nx)->Chn c (l++[f])
 | [],_,_,_,_=>⟨Oo,m _,trivial⟩
 | g :: l,h,hn,hfl,hk=>by
  obtain ⟨o,p,q⟩:=h;have d:=UB.1 hn;have n:=hk g Os o Oo;refine ⟨Oo,?_,q.snoc j r m d.2 (λh=>hfl (Wp _ h)) λk i a b=>?_⟩
  ·rw[n];cases l with
   | nil=>rw[if_pos Os];rfl
   | cons g' l =>
    have:¬ (g :: g' :: l).getLast?=some g:=λe=>by rw[Yh]at e;exact d.1 (Ua e)
    rw[if_neg this,p];rfl
  ·rw[hk k (Wp _ i) a b];cases l with
   | nil=>cases i
   | cons g' l=>rw[Yh]
theorem Chn.last{fs:List Fe}:∀ {l:List Nat},Chn fs l->∀ k,l.getLast?=some k->∃ h:k<fs.length,fs[k].nx = -1
 | [],_,k,e=>by cases e
 | [f],h,k,e=>by obtain ⟨a,b,_⟩:=h;simp only[List.getLast?_singleton,Wz]at e;subst e;exact ⟨a,b⟩
 | f :: g :: l,h,k,e=>by obtain ⟨_,_,c⟩:=h;rw[Yh]at e;exact c.last k e
def isFr(fs:List Fe)(k:Nat):Bool:=match fs[k]? with | some f=>decide (f.ow = -1) | none=>false
theorem Qcq{fs:List Fe}{k:Nat}(h:k<fs.length):isFr fs k=decide (fs[k].ow = -1):=by unfold isFr;rw[Wa h]
theorem isFr_lt{fs:List Fe}{k:Nat}(h:isFr fs k=true):∃ h':k<fs.length,fs[k].ow = -1:=by
 rcases Ws k fs.length with h' | h'
 ·rw[Qcq h']at h;exact ⟨h',of_decide_eq_true h⟩
 ·unfold isFr at h;rw[Wi h']at h;cases h
def Qk(fs:List Fe):List Nat:=(List.range fs.length).filter (isFr fs)
def Qfj(fs:List Fe)(k:Nat):List Int:=((List.range k).filter (isFr fs)).map λ(k:Nat)=>(k:Int)
theorem QgO(fs:List Fe)(k:Nat):Qfj fs (k+1)=if isFr fs k=true then Qfj fs k++[(k:Int)] else Qfj fs k:=by
 unfold Qfj;rw[Ur,W4,WP];by_cases h:isFr fs k=true
 ·rw[if_pos h];simp[h]
 ·rw[if_neg h];simp[h]
theorem freeTo_len(fs:List Fe)(k:Nat):(Qfj fs k).length<=k:=by unfold Qfj;rw[Wb];exact Ub (W9 _ _) Os
theorem free_ok(s:Sp)(h:s.fs.length<=65536):ZT s=some ((Qk s.fs).map λ(k:Nat)=>(k:Int)):=by
 unfold ZT;refine QdU (a:=Qfj s.fs s.fs.length) ?_ rfl;refine Qf3 (λk=>(Qfj s.fs k,(k:Int))) s.fs.length (λj c=>?_) ?_
 ·dsimp only;rw[if_pos Oo,Qg0 c];simp only[WB];have e:=freeTo_len s.fs j;have d:w64 ((j:Int)+1)=((j+1:Nat):Int):=Qb Oo;by_cases b:s.fs[j].ow = -1
  ·rw[if_pos b,if_pos (by simp only[W3,VN];omega),QgO,if_pos (by rw[Qcq c];exact decide_eq_true b),d]
  ·rw[if_neg b,QgO,if_neg (by rw[Qcq c];simpa using b),d]
 ·dsimp only;rw[if_neg Oo]
def frF(fs:List Fe):Option Nat:=(Qk fs).head?
theorem filter_range{p:Nat->Bool}{n f:Nat}(g:f<n)(c:p f=true)(e:∀ k,k<f->p k=false):((List.range n).filter p).head?=some f:=by
 obtain ⟨d,rfl⟩:∃ d,n=f+(d+1):=⟨n-f-1,Oo⟩;rw[List.range_add,W4];have a:(List.range f).filter p=[]:=Uu.2 λk b=>by rw[e k (WE.1 b)];simp
 rw[a,V3,List.range_succ_eq_map,Vj,Vz,List.filter_cons_of_pos c];rfl
theorem Qf9{fs:List Fe}{f:Nat}(h:frF fs=some f):∃ h':f<fs.length,fs[f].ow = -1:=by unfold frF Qk at h;have:=WX.1 (List.mem_of_head? h);exact isFr_lt this.2
theorem frF_first{fs:List Fe}{f:Nat}(h:frF fs=some f):∀ k (b:k<fs.length),k<f->¬ fs[k].ow = -1:=λk b l e=>by
 obtain ⟨g,c,d⟩:=least_nat (p:=λj=>isFr fs j=true) k (by rw[Qcq b];exact decide_eq_true e);have a:=(isFr_lt c).1;have:=filter_range (p:=isFr fs) (n:=fs.length) a c λj m=>by
  cases hx:isFr fs j with
  | false=>rfl
  | true=>have:=d j hx;omega
 have i:frF fs=some g:=this;rw[i]at h;injection h with h;have:=d k (by rw[Qcq b];exact decide_eq_true e);omega
theorem frF_of{fs:List Fe}(h:Qk fs≠[]):∃ f,frF fs=some f:=by
 unfold frF;cases hx:Qk fs with
 | nil=>exact absurd hx h
 | cons f l=>exact ⟨f,rfl⟩
theorem lift_spec(s:Sp)(q b:Int){f:Nat}(a:frF s.fs=some f)(h:s.fs.length<=65536)(l:0<=q/\q<=4294967295)(i:0<=b/\b<4):JT s q b=some ((f:Int),s.fs.set f ⟨q,b*4294967296+q,-1⟩):=by
 obtain ⟨d,e⟩:=Qf9 a;have c:=frF_first a;unfold JT;refine bndR_eqR ?_;refine Qf3 (λk=>(k:Int)) f (λj g=>?_) ?_
 ·rw[if_pos Oo,Qg0 (show j<s.fs.length by omega)];simp only[WB];rw[if_neg (c j Oo g),show w64 ((j:Int)+1)=((j+1:Nat):Int) from Qb Oo]
 ·rw[if_pos Oo,Qg0 d];simp only[WB];rw[if_pos e,Qb (n:=b*4294967296) Oo,Qb (n:=b*4294967296+q) Oo,Wd]
structure IncC(fs:List Fe)(i:Inc)(fr:List Nat):Prop where
 sq:0<=i.seq/\i.seq<=4294967295
 bl:0<=i.belt/\i.belt<4
 ch:Chn fs fr
 nd:fr.Nodup
 ow:∀ k (h:k<fs.length),fs[k].ow=i.seq<->k∈fr
 st:∀ k (h:k<fs.length),k∈fr->fs[k].st=i.belt*4294967296+i.seq
 first:i.first=match fr.head? with | none=>-1 | some f=>(f:Int)
 last:i.last=match fr.getLast? with | none=>-1 | some f=>(f:Int)
def lnk(fs:List Fe)(i:Inc)(f:Nat):List Fe×Inc :=
 let fs1:=fs.set f ⟨i.seq,i.belt*4294967296+i.seq,-1⟩
 if i.first = -1 then(fs1,⟨i.seq,i.belt,f,f,i.words⟩)
 else(match fs1[i.last.toNat]? with | some g=>fs1.set i.last.toNat ⟨g.ow,g.st,f⟩ | none=>fs1,⟨i.seq,i.belt,i.first,f,i.words⟩)
theorem lnk_len(fs:List Fe)(i:Inc)(f:Nat):(lnk fs i f).1.length=fs.length:=by
 unfold lnk;dsimp only;split
 ·simp
 ·split <;> simp
theorem lnk_at{s:Sp}(w:Zn s){i:Inc}{fr:List Nat}(b:IncC s.fs i fr){f:Nat}(u:f<s.fs.length)(v:s.fs[f].ow = -1) :
  (∀ h:f<(lnk s.fs i f).1.length,(lnk s.fs i f).1[f]=⟨i.seq,i.belt*4294967296+i.seq,-1⟩) /\
  ∀ k (h:k<s.fs.length) (p:k<(lnk s.fs i f).1.length),k≠f->(lnk s.fs i f).1[k].ow=s.fs[k].ow/\(lnk s.fs i f).1[k].st=s.fs[k].st/\(lnk s.fs i f).1[k].nx=if fr.getLast?=some k then(f:Int) else s.fs[k].nx:=by
 have g:f∉fr:=λh=>by have:=(b.ow f u).2 h;have:=b.sq.1;omega
 cases hg:fr.getLast? with
 | none =>
  have q:fr=[]:=YE.1 hg;have j:i.first = -1:=by rw[b.first,q];rfl
  unfold lnk;simp only[j,if_true];refine ⟨λh=>by simp,λk h p o=>?_⟩;rw[VS (λe=>o e.symm)];exact ⟨rfl,rfl,Os⟩
 | some l =>
  have c:l∈fr:=Ua hg;have m:=b.ch.lt l c;have d:l≠f:=λe=>g (e▸c);have n:i.last=(l:Int):=by rw[b.last,hg]
  have j:¬ i.first = -1:=by
   rw[b.first];cases hh:fr.head? with
   | none=>rw[YT]at hh;rw[hh]at hg;cases hg
   | some x=>dsimp only;omega
  have r:i.last.toNat=l:=by rw[n];rfl
  have t:(lnk s.fs i f).1=(s.fs.set f ⟨i.seq,i.belt*4294967296+i.seq,-1⟩).set l ⟨s.fs[l].ow,s.fs[l].st,f⟩:=by unfold lnk;dsimp only;rw[if_neg j,r];dsimp only;rw[WK (λe=>d e.symm),Wa m]
  simp only[t];refine ⟨λh=>by rw[VS d];simp,λk h p o=>?_⟩;by_cases a:l=k
  ·subst a;simp
  ·have:¬ some l=some k:=λe=>a (by injection e);rw[VS a,VS (λe=>o e.symm),if_neg this];exact ⟨rfl,rfl,rfl⟩
theorem stp_of{i:Inc}(a:0<=i.seq/\i.seq<=4294967295)(b:0<=i.belt/\i.belt<4):Stp i.seq (i.belt*4294967296+i.seq):=⟨a.1,a.2,i.belt,b.1,b.2,Oo⟩
theorem lnk_ok{s:Sp}(A:Zn s){i:Inc}{fr:List Nat}(c:IncC s.fs i fr){f:Nat}(q:f<s.fs.length)(B:s.fs[f].ow = -1) :
  Zn ⟨s.sh,s.ws,(lnk s.fs i f).1⟩/\IncC (lnk s.fs i f).1 (lnk s.fs i f).2 (fr++[f]):=by
 obtain ⟨o,p⟩:=lnk_at A c q B;have j:=lnk_len s.fs i f;have m:f∉fr:=λh=>by have:=(c.ow f q).2 h;have:=c.sq.1;omega
 have H:=c.sq.1;have C:(lnk s.fs i f).2.seq=i.seq/\(lnk s.fs i f).2.belt=i.belt/\(lnk s.fs i f).2.last=f/\(lnk s.fs i f).2.first=if i.first = -1 then(f:Int) else i.first:=by unfold lnk;dsimp only;split <;> exact ⟨rfl,rfl,rfl,rfl⟩
 obtain ⟨t,x,D,E⟩:=C;refine ⟨sp_link A q B (stp_of c.sq c.bl) fr.getLast? (λl y=>?_) j o p,?_⟩
 ·obtain ⟨u,F⟩:=c.ch.last l y;have w:=Ua y;exact ⟨u,F,(c.ow l u).2 w,c.st l u w⟩
 ·refine ⟨by rw[t];exact c.sq,by rw[x];exact c.bl,?_,?_,λk n=>?_,λk n v=>?_,?_,?_⟩
  ·exact c.ch.snoc j q (λh=>by rw[o h]) c.nd m λk n a b=>(p k a b (λe=>m (e▸n))).2.2
  ·rw[Uq];exact ⟨c.nd,Os,λa G b z=>by rw[Wn]at z;subst z;exact λe=>m (e▸G)⟩
  ·rw[t,Wk,Wn];by_cases d:k=f
   ·subst d;rw[o n];simp
   ·rw[(p k Oo n d).1,c.ow k Oo];simp[d]
  ·rw[t,x];by_cases d:k=f
   ·subst d;rw[o n]
   ·rw[(p k Oo n d).2.1];refine c.st k Oo ?_;rcases Wk.1 v with h | h
    ·exact h
    ·rw[Wn]at h;exact absurd h d
  ·rw[E];cases fr with
   | nil =>have r:i.first = -1:=c.first;rw[if_pos r];rfl
   | cons g l =>have r:i.first=(g:Int):=c.first;rw[if_neg Oo,r];rfl
  ·rw[D,List.getLast?_append];simp
theorem lnk_other{s:Sp}(o:Zn s){i:Inc}{fr:List Nat}(n:IncC s.fs i fr){f:Nat}(h:f<s.fs.length)(m:s.fs[f].ow = -1){k:Nat}(j:k<s.fs.length)(l:k<(lnk s.fs i f).1.length)(g:k≠f)(d:k∉fr):(lnk s.fs i f).1[k]=s.fs[k]:=by
 obtain ⟨a,b,c⟩:=(lnk_at o n h m).2 k j l g;rw[if_neg (λe=>d (Ua e))]at c;generalize (lnk s.fs i f).1[k]=x at *;generalize s.fs[k]=y at *;cases x
 cases y
 simp only at a b c;subst a;subst b;subst c;rfl
theorem lnk_free{s:Sp}(u:Zn s){i:Inc}{fr:List Nat}(n:IncC s.fs i fr){f:Nat}(b:frF s.fs=some f):Qk (lnk s.fs i f).1=(Qk s.fs).tail:=by
 obtain ⟨m,q⟩:=Qf9 b;obtain ⟨r,t⟩:=lnk_at u n m q;have d:=lnk_len s.fs i f;have v:=n.sq.1;have o:∀ k∈List.range s.fs.length,isFr (lnk s.fs i f).1 k=(isFr s.fs k && !decide (k=f)):=λk a=>by
  have a:=WE.1 a;rw[Qcq Oo,Qcq a];by_cases c:k=f
  ·subst c;rw[r Oo];have:¬ i.seq = -1:=by omega
   simp[this]
  ·rw[(t k a Oo c).1];simp[c]
 have p:Qk (lnk s.fs i f).1=(Qk s.fs).filter λk=>!decide (k=f):=by unfold Qk;rw[d,List.filter_filter];refine U0 λk a=>?_;rw[o k a,Bool.and_comm]
 have h:(Qk s.fs).Nodup:=List.Pairwise.filter _ List.nodup_range;unfold frF at b;cases hx:Qk s.fs with
 | nil=>rw[hx]at b;cases b
 | cons g l =>rw[hx]at b h;injection b with b;subst b;rw[p,hx,List.tail_cons,List.filter_cons_of_neg Os];refine VI.2 λk a=>?_;have:=(UB.1 h).1;have j:k≠g:=λe=>this (e▸a);simp[j]
def JE:Nat->List Fe->Inc->List Fe×Inc
 | 0,fs,i=>(fs,i)
 | n+1,fs,i=>match frF fs with
  | none=>(fs,i)
  | some f=>JE n (lnk fs i f).1 (lnk fs i f).2
structure GrowOk(s:Sp)(i:Inc)(fr:List Nat)(n:Nat)(fs':List Fe)(i':Inc):Prop where
 sp:Zn ⟨s.sh,s.ws,fs'⟩
 len:fs'.length=s.fs.length
 inc:IncC fs' i' (fr++(Qk s.fs).take n)
 free:Qk fs'=(Qk s.fs).drop n
 words:i'.words=i.words/\i'.seq=i.seq/\i'.belt=i.belt
 other:∀ k (h:k<s.fs.length) (h':k<fs'.length),k∉fr->k∉(Qk s.fs).take n->fs'[k]=s.fs[k]
theorem Qf8:∀ (n:Nat) {s:Sp} {i:Inc} {fr:List Nat},Zn s->IncC s.fs i fr->n<=(Qk s.fs).length->GrowOk s i fr n (JE n s.fs i).1 (JE n s.fs i).2
 | 0,s,i,fr,hs,hc,_=>⟨hs,rfl,by simpa [JE] using hc,by simp[JE],⟨rfl,rfl,rfl⟩,λ_ _ _ _ _=>rfl⟩
 | n+1,s,i,fr,hs,hc,hn=>by
  obtain ⟨f,a⟩:=frF_of (fs:=s.fs) (λe=>by rw[e]at hn;simp at hn);obtain ⟨d,q⟩:=Qf9 a;obtain ⟨t,u⟩:=lnk_ok hs hc d q;have j:=lnk_free hs hc a;have c:Qk s.fs=f :: (Qk s.fs).tail:=by
   unfold frF at a;cases c:Qk s.fs with
   | nil=>rw[c]at a;cases a
   | cons g l=>rw[c]at a;injection a with a;subst a;rfl
  have m:(lnk s.fs i f).2.words=i.words/\(lnk s.fs i f).2.seq=i.seq/\(lnk s.fs i f).2.belt=i.belt:=by unfold lnk;dsimp only;split <;> exact ⟨rfl,rfl,rfl⟩
  have g:=Qf8 n (s:=⟨s.sh,s.ws,(lnk s.fs i f).1⟩) t u (by show n<=(Qk (lnk s.fs i f).1).length;rw[j,List.length_tail];omega);have e:JE (n+1) s.fs i=JE n (lnk s.fs i f).1 (lnk s.fs i f).2:=by show (match frF s.fs with | none=>(s.fs,i) | some f=>JE n (lnk s.fs i f).1 (lnk s.fs i f).2)=_;rw[a]
  rw[e];have o:(Qk s.fs).take (n+1)=f :: (Qk s.fs).tail.take n:=by rw[c];rfl
  refine ⟨g.sp,g.len.trans (lnk_len _ _ _),?_,?_,⟨g.words.1.trans m.1,g.words.2.1.trans m.2.1,g.words.2.2.trans m.2.2⟩,λk h v r b=>?_⟩
  ·have:=g.inc;dsimp only at this;rw[j,WI]at this;rw[o];exact this
  ·have:=g.free;dsimp only at this;rw[this,j,c];rfl
  ·rw[o,Wu,not_or]at b;have p:k<(lnk s.fs i f).1.length:=by rw[lnk_len];exact h
   rw[<- lnk_other hs hc d q h p b.1 r];refine g.other k p v ?_ ?_
   ·rw[Wk,Wn,not_or];exact ⟨r,b.1⟩
   ·dsimp only;rw[j];exact b.2
def adr(z:Nat)(fr:List Nat)(p:Nat):Nat:=(fr[p/z]?).getD 0*z+p%z
theorem Chn.drop{fs:List Fe}:∀ (n:Nat) {l:List Nat},Chn fs l->Chn fs (l.drop n)
 | 0,_,h=>h
 | n+1,[],h=>trivial
 | n+1,f :: l,h=>h.2.2.drop n
def Own(fs:List Fe)(fr:List Nat):Prop:=∀ k∈fr,∀ h:k<fs.length,¬ fs[k].ow = -1
theorem IncC.own{fs:List Fe}{i:Inc}{fr:List Nat}(h:IncC fs i fr):Own fs fr:=λk a b e=>by have:=(h.ow k b).2 a;have:=h.sq.1;omega
theorem QdV{z:Nat}(a:0<z)(fr:List Nat)(p:Nat):adr z fr p/z=(fr[p/z]?).getD 0/\adr z fr p%z=p%z:=by
 unfold adr;have:=UJ p a;refine ⟨?_,?_⟩
 ·rw[Wac,YZ _ _ a,Yo this,W0]
 ·rw[Wac,Nat.add_mul_mod_self_right,VE this]
theorem QaJ{s:Sp}(b:Qdx s){fr:List Nat}(f:∀ k∈fr,k<s.fs.length){p:Nat}(e:p<fr.length*szS s):adr (szS s) fr p<s.ws.length:=by obtain ⟨h,i,j,l,m⟩:=b.z;have a:p/szS s<fr.length:=Vy (by rw[VG];exact e);have c:=f _ (Wc a);unfold adr;rw[Wa a,WG,b.wl];have g:=UJ p (show 0<szS s by omega);have d:(fr[p/szS s]+1)*szS s<=s.fs.length*szS s:=Wy _ c;rw[Vk]at d;omega
theorem div_sub{z p k:Nat}(a:0<z):(p%z+k)/z+p/z=(p+k)/z/\(p%z+k)%z=(p+k)%z:=by
 have h:=UV p z;have e:p+k=(p%z+k)+z*(p/z):=by omega
 refine ⟨?_,?_⟩
 ·rw[e,Nat.add_mul_div_left _ _ a]
 ·rw[e,Nat.add_mul_mod_self_left]
theorem go_adr{s:Sp}(l:Qdx s){fr:List Nat}(g:Chn s.fs fr)(t:Own s.fs fr){p k:Nat}(m:p<fr.length*szS s) :
  GoR s ((adr (szS s) fr p:Nat):Int) (k:Int)=if p+k<fr.length*szS s then(((adr (szS s) fr (p+k):Nat):Int),(0:Int)) else(0,2):=by
 obtain ⟨u,v,w,x,y⟩:=l.z;have f:0<szS s:=by omega
 have d:p/szS s<fr.length:=Vy (by rw[VG];exact m);have n:=QaJ l g.lt m;obtain ⟨j,o⟩:=QdV f fr p;rw[Wa d,WG]at j;have h:=g.lt _ (Wc d);rw[GoR_in Oo Oo Oo,<- Uv,<- Int.natCast_emod,j,o,ownF_at h,if_neg (t _ (Wc d) h)];obtain ⟨q,r⟩:=div_sub (p:=p) (k:=k) f;have i:fr.drop (p/szS s)=fr[p/szS s] :: fr.drop (p/szS s+1):=Vi d;have b:=g.drop (p/szS s);rw[i]at b;have c:=b.it ((p%szS s+k)/szS s);rw[<- i,WW,Wac (p/szS s),q]at c;unfold adv;rw[show ((p%szS s:Nat):Int)+(k:Int)=((p%szS s+k:Nat):Int) by push_cast;rfl,<- Uv,<- Int.natCast_emod,Wd,c,r];by_cases a:p+k<fr.length*szS s
 ·have e:(p+k)/szS s<fr.length:=Vy (by rw[VG];exact a);rw[if_pos a,Wa e];dsimp only;rw[if_pos (Int.natCast_nonneg _)];unfold adr;rw[Wa e,WG];push_cast;rfl
 ·have e:fr.length<=(p+k)/szS s:=by rw[Y1 f];omega
  rw[if_neg a,Wi e];rfl
theorem Qcw{z:Nat}(j:0<z){fr:List Nat}(n:fr.Nodup){p q:Nat}(o:p<fr.length*z)(r:q<fr.length*z)(e:adr z fr p=adr z fr q):p=q:=by
 have c:p/z<fr.length:=Vy (by rw[VG];exact o);have d:q/z<fr.length:=Vy (by rw[VG];exact r);obtain ⟨f,m⟩:=QdV j fr p;obtain ⟨i,t⟩:=QdV j fr q;rw[e]at f m;rw[Wa c,WG]at f;rw[Wa d,WG]at i;have g:fr[p/z]=fr[q/z]:=by rw[<- f,<- i]
 have k:p/z=q/z:=by
  by_cases b:p/z=q/z
  ·exact b
  ·have a:=WA.1 n;rcases Yc b with h | h
   ·exact absurd g (a _ _ c d h)
   ·exact absurd g.symm (a _ _ d c h)
 have l:=UV p z;have s:=UV q z;rw[k]at l;omega
theorem Qem{z:Nat}(f:0<z){fr fr':List Nat}(h:∀ k∈fr,k∉fr'){p q:Nat}(i:p<fr.length*z)(j:q<fr'.length*z):adr z fr p≠adr z fr' q:=λe=>by
 have b:p/z<fr.length:=Vy (by rw[VG];exact i);have c:q/z<fr'.length:=Vy (by rw[VG];exact j);obtain ⟨a,_⟩:=QdV f fr p;obtain ⟨d,_⟩:=QdV f fr' q;rw[e]at a;rw[Wa b,WG]at a;rw[Wa c,WG]at d;have g:fr[p/z]=fr'[q/z]:=by rw[<- a,<- d]
 exact h _ (Wc b) (g▸Wc c)
theorem ZL{z:Nat}(c:0<z){fr l:List Nat}{p:Nat}(b:p<fr.length*z):adr z (fr++l) p=adr z fr p:=by have a:p/z<fr.length:=Vy (by rw[VG];exact b);unfold adr;rw[WF a]
theorem sub_len:∀ (l b:List Nat),l.Nodup->(∀ x∈l,x∈b)->l.length<=b.length
 | [],_,_,_=>WO _
 | x :: l,b,hn,h=>by have c:=h x Os;have a:=UB.1 hn;have:=sub_len l (b.erase x) a.2 λy d=>(List.mem_erase_of_ne (λ(e:y=x)=>a.1 (by rw[<- e];exact d))).2 (h y (Wp _ d));rw[List.length_erase_of_mem c]at this;have f:0<b.length:=List.length_pos_of_mem c;rw[W3];omega
def isOw(fs:List Fe)(q:Int)(k:Nat):Bool:=match fs[k]? with | some f=>decide (f.ow=q) | none=>false
theorem isOw_at{fs:List Fe}{q:Int}{k:Nat}(h:k<fs.length):isOw fs q k=decide (fs[k].ow=q):=by unfold isOw;rw[Wa h]
structure QdX(s:Sp)(i:Inc)(fr:List Nat):Prop extends IncC s.fs i fr where
 wd:0<=i.words/\i.words<=s.ws.length
 len:(fr.length:Int)=clN s i.words
theorem QdS{s:Sp}(a:QcQ s.sh){n:Nat}(g:n<=1099511627776):clN s (n:Int)=((n+szS s-1)/szS s:Nat):=by obtain ⟨b,c,d,e,f⟩:=Jo a;unfold clN;rw[if_neg Oo];push_cast [Int.natCast_sub (show 1<=n+szS s by omega)];rfl
theorem QgA{n:Nat}{l:List Nat}(a:l.Nodup)(h:∀ x∈l,x<n):l.length<=n:=Qdp n l a h
theorem growN_succ:∀ (n:Nat) (fs:List Fe) (i:Inc),JE (n+1) fs i=match frF (JE n fs i).1 with
  | none=>JE n fs i
  | some f=>lnk (JE n fs i).1 (JE n fs i).2 f
 | 0,fs,i=>by show (match frF fs with | none=>(fs,i) | some f=>JE 0 (lnk fs i f).1 (lnk fs i f).2)=(match frF fs with | none=>(fs,i) | some f=>lnk fs i f);cases frF fs <;> rfl
 | n+1,fs,i=>by
  have e:∀ m,JE (m+1) fs i=match frF fs with | none=>(fs,i) | some f=>JE m (lnk fs i f).1 (lnk fs i f).2:=λ_=>rfl
  rw[e (n+1),e n];cases h:frF fs with
  | none=>dsimp only;rw[h]
  | some f=>dsimp only;exact growN_succ n _ _
def exN(s:Sp)(i:Inc)(n:Int):Nat:=(clN s (i.words+n)-clN s i.words).toNat
def grw(s:Sp)(i:Inc)(n:Int):Inc:=let j:=(JE (exN s i n) s.fs i).2;⟨j.seq,j.belt,j.first,j.last,i.words+n⟩
def Zo(s:Sp)(i:Inc)(n:Int):List Fe:=(JE (exN s i n) s.fs i).1
theorem exN_ok{s:Sp}(d:Qdx s){i:Inc}{n:Int}(p:0<=i.words/\i.words<=s.ws.length)(q:1<=n/\n<=48):clN s (i.words+n)-clN s i.words=exN s i n/\exN s i n<=7:=by
 obtain ⟨j,k,l,m,o⟩:=d.z;have f:=d.small;obtain ⟨a,ha⟩:∃ a:Nat,i.words=a:=⟨i.words.toNat,Oo⟩;obtain ⟨b,rfl⟩:∃ b:Nat,n=b:=⟨n.toNat,Oo⟩;unfold exN;rw[ha,show (a:Int)+(b:Int)=((a+b:Nat):Int) by push_cast;rfl,QdS d.sh Oo,QdS d.sh Oo];have g:(a+szS s-1)/szS s<=(a+b+szS s-1)/szS s:=Nat.div_le_div_right Oo;have h:(a+b+szS s-1)/szS s<=(a+szS s-1)/szS s+7:=by
  have:a+b+szS s-1<=(a+szS s-1)+6*szS s:=by omega
  have e:=Nat.div_le_div_right (c:=szS s) this;rw[YZ _ _ Oo]at e;omega
 omega
theorem Qas{s:Sp}(b:Qdx s){i:Inc}{fr:List Nat}(h:QdX s i fr){n:Int}(g:1<=n/\n<=48):i.words+n<=((fr.length+exN s i n)*szS s:Nat)/\0<fr.length+exN s i n/\((fr.length+exN s i n:Nat):Int)=clN s (i.words+n):=by
 obtain ⟨o,p,q,r,t⟩:=b.z;have j:=b.small;obtain ⟨u,v⟩:=exN_ok b h.wd g;have k:=h.len;have c:((fr.length+exN s i n:Nat):Int)=clN s (i.words+n):=by push_cast;omega
 obtain ⟨a,ha⟩:∃ a:Nat,i.words+n=a:=⟨(i.words+n).toNat,by have:=h.wd.1;omega⟩;have e:=c;rw[ha,QdS b.sh (by have:=h.wd.2;omega)]at e;have d:fr.length+exN s i n=(a+szS s-1)/szS s:=by omega
 have l:a<=(a+szS s-1)/szS s*szS s:=by have f:=UV (a+szS s-1) (szS s);have m:=UJ (a+szS s-1) (show 0<szS s by omega);rw[VG]at f;omega
 refine ⟨by rw[ha,d];omega,?_,c⟩;rw[d];have:1<=(a+szS s-1)/szS s:=by rw[Y1 Oo];have:=h.wd.1;omega
 omega
structure GrwOk(s:Sp)(i:Inc)(fr:List Nat)(n:Int):Prop where
 sp:Zn ⟨s.sh,s.ws,Zo s i n⟩
 len:(Zo s i n).length=s.fs.length
 inc:QdX ⟨s.sh,s.ws,Zo s i n⟩ (grw s i n) (fr++(Qk s.fs).take (exN s i n))
 free:Qk (Zo s i n)=(Qk s.fs).drop (exN s i n)
 same:(grw s i n).words=i.words+n/\(grw s i n).seq=i.seq/\(grw s i n).belt=i.belt
 other:∀ k (h:k<s.fs.length) (h':k<(Zo s i n).length),k∉fr->k∉(Qk s.fs).take (exN s i n)->(Zo s i n)[k]=s.fs[k]
theorem QgL{s:Sp}(c:Zn s){i:Inc}{fr:List Nat}(h:QdX s i fr){n:Int}(j:1<=n/\n<=48)(e:exN s i n<=(Qk s.fs).length):GrwOk s i fr n:=by
 have g:=Qf8 (exN s i n) c h.toIncC e;obtain ⟨l,m,f⟩:=Qas c.shp h j;have b:IncC (Zo s i n) (grw s i n) (fr++(Qk s.fs).take (exN s i n)):=by have:=g.inc;exact ⟨this.sq,this.bl,this.ch,this.nd,this.ow,this.st,this.first,this.last⟩
 have a:(fr++(Qk s.fs).take (exN s i n)).length=fr.length+exN s i n:=by rw[We,Wf,W5 e]
 refine ⟨g.sp,g.len,{ b with wd:=⟨by have:=h.wd.1;show 0<=i.words+n;omega,?_⟩,len:=?_ },g.free,⟨rfl,g.words.2.1,g.words.2.2⟩,g.other⟩
 ·show i.words+n<=s.ws.length;have d:=QgA b.nd b.ch.lt;rw[a,show (Zo s i n).length=s.fs.length from g.len]at d;have k:(fr.length+exN s i n)*szS s<=s.fs.length*szS s:=Wy _ d;rw[c.shp.wl];omega
 ·rw[a];exact f
theorem GrwOk.at{s:Sp}{i:Inc}{fr:List Nat}{n:Int}(h:GrwOk s i fr n)(j:Zn s)(m:QdX s i fr)(u:1<=n/\n<=48)(t:exN s i n<=(Qk s.fs).length) :
  GoR ⟨s.sh,s.ws,Zo s i n⟩ ((grw s i n).first*2^s.sh.toNat) i.words=(((adr (szS s) (fr++(Qk s.fs).take (exN s i n)) i.words.toNat:Nat):Int),0):=by
 obtain ⟨v,w,x,y,q⟩:=j.shp.z;obtain ⟨z,r,A⟩:=Qas j.shp m u;have b:(fr++(Qk s.fs).take (exN s i n)).length=fr.length+exN s i n:=by rw[We,Wf,W5 t]
 obtain ⟨a,ha⟩:∃ a:Nat,i.words=a:=⟨i.words.toNat,by have:=m.wd.1;omega⟩;have e:=h.inc.first;have g:=h.inc.ch;have c:=h.inc.own;generalize hF:fr++(Qk s.fs).take (exN s i n)=F at *;cases F with
 | nil=>simp at b;omega
 | cons f l =>
  have o:adr (szS s) (f :: l) 0=f*szS s:=by unfold adr;simp
  have d:=go_adr (s:=⟨s.sh,s.ws,Zo s i n⟩) h.sp.shp g c (p:=0) (k:=a) (by show 0<(f :: l).length*szS s;rw[b];exact Y5 r Oo);rw[show szS (⟨s.sh,s.ws,Zo s i n⟩:Sp)=szS s from rfl,o]at d;rw[e,q,ha];show GoR _ ((f:Int)*(szS s:Int)) (a:Int)=_;rw[show (f:Int)*(szS s:Int)=((f*szS s:Nat):Int) by push_cast;rfl,d,if_pos (by rw[b];omega),W0];rfl
theorem QgM{s:Sp}(h:Zn s){i:Inc}{fr:List Nat}(q:QdX s i fr){n:Int}(A:1<=n/\n<=48) :
  XZ s i n=some (if exN s i n<=(Qk s.fs).length then(grw s i n,((adr (szS s) (fr++(Qk s.fs).take (exN s i n)) i.words.toNat:Nat):Int),0,Zo s i n) else(⟨0,0,0,0,0⟩,0,4,s.fs)):=by
 obtain ⟨U,Y,Z,g4,P⟩:=h.shp.z;have X:=h.shp.small;have Q:=h.shp.hi;obtain ⟨V,e2⟩:=exN_ok h.shp q.wd A;have R:=q.wd;unfold XZ;have S:Xl s i n=some (exN s i n:Int):=by rw[extra_c h.shp.sh (by unfold I64;omega) (by unfold I64;omega),V]
 refine QdU S ?_;refine QdU (free_ok s Oo) ?_;rw[Wb];by_cases r:exN s i n<=(Qk s.fs).length
 ·rw[if_neg Oo];have t:=QgL h q A r;have lp:Qf (λ(c:List Fe×Inc×Int) =>
    if 0<c.2.2 then
     ((JT (Sp.mk s.sh s.ws c.1) c.2.1.seq c.2.1.belt).bind λd =>
      if d.2.length=c.1.length then
       if c.2.1.first=(-1) then(some (.go ((d.2,Inc.mk c.2.1.seq c.2.1.belt d.1 d.1 c.2.1.words,w64 (c.2.2-1)))))
       else(at_ d.2 c.2.1.last).bind λz=>some (.go ((d.2.set (Int.toNat c.2.1.last) (Fe.mk z.ow z.st d.1),Inc.mk c.2.1.seq c.2.1.belt c.2.1.first d.1 c.2.1.words,w64 (c.2.2-1))))
      else none)
    else some (.out ((c.1,c.2.1)))) (s.fs,i,(exN s i n:Int))=some (Zo s i n,(JE (exN s i n) s.fs i).2):=by
   refine Qf3 (σ:=List Fe×Inc×Int) (λj=>((JE j s.fs i).1,(JE j s.fs i).2,((exN s i n:Int)-(j:Int)))) (exN s i n) (λj hj=>?_) ?_
   ·have m:=Qf8 j h q.toIncC Oo
    have B:Qk (JE j s.fs i).1≠[]:=λe=>by
     have:=congrArg List.length (m.free.symm.trans e)
     rw[Wv]at this
     simp at this
     omega
    obtain ⟨f,p⟩:=frF_of B
    obtain ⟨W,h0⟩:=Qf9 p
    have C:=m.inc.sq
    have D:=m.inc.bl
    have L:=lift_spec ⟨s.sh,s.ws,(JE j s.fs i).1⟩ (JE j s.fs i).2.seq (JE j s.fs i).2.belt p (by show (JE j s.fs i).1.length<=_;rw[m.len];omega) C D
    have g:=growN_succ j s.fs i
    rw[p]at g
    dsimp only at g L ⊢
    rw[if_pos Oo,L]
    simp only[WB]
    rw[if_pos Os,g,show w64 ((exN s i n:Int)-(j:Int)-1)=(exN s i n:Int)-((j+1:Nat):Int) from by rw[Qb Oo];push_cast;omega]
    generalize (JE j s.fs i).1=fs at *
    generalize O:(JE j s.fs i).2=I at *
    unfold lnk
    dsimp only
    by_cases o:I.first = -1
    ·rw[if_pos o,if_pos o]
    ·rw[if_neg o,if_neg o]
     have b:=m.inc.last
     cases hg:(fr++(Qk s.fs).take j).getLast? with
     | none =>
      have E:=YE.1 hg
      exact absurd (by rw[m.inc.first,E];rfl) o
     | some l =>
      rw[hg]at b
      dsimp only at b
      have F:=m.inc.ch.lt l (Ua hg)
      have u:I.last.toNat<(fs.set f ⟨I.seq,I.belt*4294967296+I.seq,-1⟩).length:=by rw[Ww,b];exact F
      rw[at_int (by rw[b];omega) u,Wa u]
      rfl
   ·dsimp only
    rw[if_neg Oo]
    rfl
  refine QdU (a:=(Zo s i n,(JE (exN s i n) s.fs i).2)) lp ?_;dsimp only;have G:wu s.sh=s.sh:=Xg Oo;rw[G,if_pos U];have v:=t.sp;have k:0<=(grw s i n).first/\(grw s i n).first<s.fs.length:=by
   have w:=t.inc.first;obtain ⟨w1,w2,w3⟩:=Qas h.shp q A;cases hh:(fr++(Qk s.fs).take (exN s i n)).head? with
   | none =>have:=YT.1 hh;have H:=congrArg List.length this;rw[We,Wf,W5 r,VN]at H;omega
   | some x =>rw[hh]at w;have:=t.inc.ch.lt x (List.mem_of_head? hh);have M:(⟨s.sh,s.ws,Zo s i n⟩:Sp).fs.length=s.fs.length:=t.len;rw[M]at this;rw[w];dsimp only;omega
  have y:Qbv .i64 (JE (exN s i n) s.fs i).2.first s.sh=(grw s i n).first*2^s.sh.toNat:=by
   obtain ⟨e,he⟩:∃ e:Nat,s.sh=e:=⟨s.sh.toNat,Oo⟩;have N:0<=(grw s i n).first*2^s.sh.toNat/\(grw s i n).first*2^s.sh.toNat<=16384:=by
    rw[P];refine ⟨YC k.1 Oo,?_⟩;have o:(grw s i n).first*(szS s:Int)<=(64:Int)*(szS s:Int):=Uj Oo Oo;have H:(64:Int)*(szS s:Int)<=64*256:=by omega
    omega
   rw[he]at N ⊢;rw[Wd]at N ⊢;exact shl_pow Oo (by show _<=(grw s i n).first*2^e/\(grw s i n).first*2^e<=_;omega)
  rw[y];have J:QP ⟨s.sh,s.ws,Zo s i n⟩ ((grw s i n).first*2^s.sh.toNat) i.words=some (((adr (szS s) (fr++(Qk s.fs).take (exN s i n)) i.words.toNat:Nat):Int),0):=by
   have o:(grw s i n).first*(szS s:Int)<=(64:Int)*(szS s:Int):=Uj Oo Oo;have H:(64:Int)*(szS s:Int)<=64*256:=by omega
   have M:0<=(grw s i n).first*(szS s:Int):=YC k.1 Oo;have O:I64 ((grw s i n).first*2^s.sh.toNat):=by rw[P];unfold I64;omega
   have T:I64 i.words:=by unfold I64;omega
   rw[go_c (s:=⟨s.sh,s.ws,Zo s i n⟩) v.shp (Q2 v.fm) O T,t.at h q A r]
  refine QdU J ?_;have K:w64 ((JE (exN s i n) s.fs i).2.words+n)=i.words+n:=by rw[(Qf8 (exN s i n) h q.toIncC r).words.1];exact Qb Oo
  rw[K,if_pos r];rfl
 ·rw[if_pos Oo,if_neg r]
theorem small_c(s:Sp):QaR s=some (bP (s.ws.length<=3000/\s.fs.length<=80)):=by
 refine Gd.eq ?_;unfold QaR;refine .ite (λh=>.b ?_) λh=>.f λk=>by omega
 rw[decide_eq_true_iff];omega
theorem copy_ok{s:Sp}(a:s.ws.length<=65536)(b:s.fs.length<=65536):Zw s=some s:=by unfold Zw Jj;rw[if_pos Oo];simp only[WB];rw[if_pos Oo]
theorem QdX.nil{s:Sp}(a:Qdx s){i:Inc}{fr:List Nat}(h:QdX s i fr)(c:i.words=0):fr=[]:=by obtain ⟨d,e,f,g,j⟩:=a.z;have b:=h.len;rw[c,show (0:Int)=((0:Nat):Int) from rfl,QdS a.sh Oo,W0,Yo Oo]at b;exact VA.1 Oo
theorem sp_ws{s:Sp}(b:Zn s){ws:List Int}(j:ws.length=s.ws.length)(h:∀ k (hk:k<s.fs.length),s.fs[k].ow = -1->∀ a (h1:a<s.ws.length) (h2:a<ws.length),a/szS s=k->ws[a]=s.ws[a]):Zn ⟨s.sh,ws,s.fs⟩:=by
 obtain ⟨l,m,n,o,p⟩:=b.shp.z;refine ⟨⟨b.shp.sh,b.shp.lo,b.shp.hi,by show ws.length=_;rw[j];exact b.shp.wl⟩,λi d=>?_,b.uq,b.ends⟩;rcases b.fm i d with q | q
 ·refine .inl ⟨q.1,q.2.1,q.2.2.1,λa f h1 h2=>?_⟩;have c:a<s.ws.length:=by have:a<ws.length:=f;omega
  show ws[a]=0;have e:szS (⟨s.sh,ws,s.fs⟩:Sp)=szS s:=rfl;rw[e]at h1 h2;have g:a/szS s=i:=Ya h1 h2;rw[h i d q.1 a c f g];exact q.2.2.2 a c h1 h2
 ·exact .inr q
theorem clrL_get(s:Sp)(a:Int):∀ (n:Nat) (l:List Int) (x:Nat),(∀ k:Nat,1<=k->k<=n->(GoR s a (k:Int)).1.toNat≠x)->(clrL s a n l)[x]?=l[x]?
 | 0,l,x,_=>rfl
 | n+1,l,x,h=>by unfold clrL;rw[WK (by have:=h (n+1) Oo Oo;exact_mod_cast this)];exact clrL_get s a n l x λk b c=>h k b Oo
theorem clrL_zero(s:Sp)(a:Int):∀ (n:Nat) (l:List Int) (k:Nat),1<=k->k<=n->(GoR s a (k:Int)).1.toNat<l.length->(clrL s a n l)[(GoR s a (k:Int)).1.toNat]?=some 0
 | 0,l,k,h1,h2,_=>by omega
 | n+1,l,k,h1,h2,hl=>by
  unfold clrL;by_cases b:(GoR s a ((n+1:Nat):Int)).1.toNat=(GoR s a (k:Int)).1.toNat
  ·rw[b,WN (by rw[clrL_len];exact hl)]
  ·rw[WK b];have:k≠n+1:=λe=>b (by rw[e]);exact clrL_zero s a n l k h1 Oo hl
def iniW(s:Sp)(a r d:Nat):List Int:=clrL s a (r+d) (s.ws.set a (hdW r d))
theorem Qf6(s:Sp)(a r d:Nat):(iniW s a r d).length=s.ws.length:=by unfold iniW;rw[clrL_len,Ww]
section
variable{s:Sp}{fr:List Nat}{p r d:Nat}
theorem go_k(a:Qdx s)(b:Chn s.fs fr)(c:Own s.fs fr){k:Nat}(h:p+k<fr.length*szS s):GoR s ((adr (szS s) fr p:Nat):Int) (k:Int)=(((adr (szS s) fr (p+k):Nat):Int),0):=by rw[go_adr a b c Oo,if_pos h]
theorem iniW_hd(a:Qdx s)(b:Chn s.fs fr)(f:fr.Nodup)(c:Own s.fs fr)(o:p+r+d<fr.length*szS s):(iniW s (adr (szS s) fr p) r d)[adr (szS s) fr p]?=some (hdW r d):=by obtain ⟨g,h,i,j,l⟩:=a.z;unfold iniW;rw[clrL_get _ _ _ _ _ λk m n e=>?_,WN (QaJ a b.lt Oo)];rw[go_k a b c Oo]at e;have:=Qcw Oo f Oo Oo (show adr (szS s) fr (p+k)=adr (szS s) fr p from e);omega
theorem iniW_0(a:Qdx s)(b:Chn s.fs fr)(i:fr.Nodup)(c:Own s.fs fr)(h:p+r+d<fr.length*szS s){k:Nat}(g:1<=k)(f:k<=r+d):(iniW s (adr (szS s) fr p) r d)[adr (szS s) fr (p+k)]?=some 0:=by have e:=go_k (k:=k) a b c (p:=p) Oo;have:=clrL_zero s ((adr (szS s) fr p:Nat):Int) (r+d) (s.ws.set (adr (szS s) fr p) (hdW r d)) k g f (by rw[e,Ww];exact QaJ a b.lt Oo);rw[e]at this;exact this
theorem QcZ(f:Qdx s)(g:Chn s.fs fr)(c:Own s.fs fr)(j:p+r+d<fr.length*szS s){x:Nat}(h:∀ k,k<=r+d->x≠adr (szS s) fr (p+k)):(iniW s (adr (szS s) fr p) r d)[x]?=s.ws[x]?:=by have a:x≠adr (szS s) fr p:=h 0 (WO _);unfold iniW;rw[clrL_get _ _ _ _ _ λk i b e=>?_,WK λe=>a e.symm];rw[go_k f g c Oo]at e;exact h k b e.symm
theorem ini_sp(f:Zn s)(u:SpW s)(m:Chn s.fs fr)(v:fr.Nodup)(i:Own s.fs fr)(l:p+r+d<fr.length*szS s)(H:r<=15)(G:d<=32):Zn ⟨s.sh,iniW s (adr (szS s) fr p) r d,s.fs⟩/\SpW ⟨s.sh,iniW s (adr (szS s) fr p) r d,s.fs⟩:=by
 obtain ⟨A,B,C,D,E⟩:=f.shp.z;refine ⟨sp_ws f (Qf6 ..) λk c b a h z o=>?_,λx n=>?_,u.2⟩
 ·have:=QcZ f.shp m i l (x:=a) λj F e=>?_
  ·rw[Wa z,Wa h]at this;exact VC this
  ·obtain ⟨t,_⟩:=QdV (show 0<szS s by omega) fr (p+j);have g:(p+j)/szS s<fr.length:=Vy (by rw[VG];omega);rw[<- e,o,Wa g,WG]at t;subst t;exact i _ (Wc g) c b
 ·have n:x∈iniW s (adr (szS s) fr p) r d:=n;obtain ⟨a,w,rfl⟩:=Us n;have h:(iniW s (adr (szS s) fr p) r d)[a]?=some (iniW s (adr (szS s) fr p) r d)[a]:=Wa w;by_cases c:∃ k,k<=r+d/\a=adr (szS s) fr (p+k)
  ·obtain ⟨k,c,e⟩:=c;by_cases y:k=0
   ·subst y;subst e;have this:(iniW s (adr (szS s) fr p) r d)[adr (szS s) fr (p+0)]?=some (hdW r d):=iniW_hd f.shp m v i l;rw[h]at this;rw[VC this];unfold U64 hdW;omega
   ·subst e;have:=iniW_0 f.shp m v i l (k:=k) Oo c;rw[h]at this;rw[VC this];unfold U64;omega
  ·have:=QcZ f.shp m i l (x:=a) λk q e=>c ⟨k,q,e⟩;rw[h]at this;exact u.1 _ (Wq this.symm)
end
def Lay(z:Nat)(ws:List Int)(fr:List Nat):Nat->List (Nat×Nat)->Nat->Prop
 | p,[],q=>p=q
 | p,(r,d) :: l,q=>r<=15/\d<=32/\ws[adr z fr p]?=some (hdW r d)/\Lay z ws fr (p+1+r+d) l q
theorem Lay.le{z:Nat}{ws:List Int}{fr:List Nat}:∀ {l:List (Nat×Nat)} {p q:Nat},Lay z ws fr p l q->p<=q
 | [],p,q,h=>Nat.le_of_eq h
 | (r,d) :: l,p,q,h=>by have:=h.2.2.2.le;omega
theorem Lay.congr{z:Nat}{ws c:List Int}{fr fr':List Nat}:∀ {l:List (Nat×Nat)} {p q:Nat},Lay z ws fr p l q->(∀ k,p<=k->k<q->adr z fr' k=adr z fr k/\c[adr z fr k]?=ws[adr z fr k]?)->Lay z c fr' p l q
 | [],p,q,h,_=>h
 | (r,d) :: l,p,q,h,hk=>by obtain ⟨g,i,j,e⟩:=h;have f:=e.le;obtain ⟨m,n⟩:=hk p (Wl _) Oo;exact ⟨g,i,by rw[m,n];exact j,e.congr λk a b=>hk k Oo b⟩
theorem Lay.snoc{z:Nat}{ws:List Int}{fr:List Nat}{r d:Nat}(b:r<=15)(a:d<=32):∀ {l:List (Nat×Nat)} {p q:Nat},Lay z ws fr p l q->ws[adr z fr q]?=some (hdW r d)->Lay z ws fr p (l++[(r,d)]) (q+1+r+d)
 | [],p,q,h,hw=>by have h:p=q:=h;subst h;exact ⟨b,a,hw,rfl⟩
 | (r',d') :: l,p,q,h,hw=>⟨h.1,h.2.1,h.2.2.1,h.2.2.2.snoc b a hw⟩
structure Itm where
 i:Inc
 fr:List Nat
 os:List (Nat×Nat)
structure Qa6(s:Sp)(x:Itm):Prop where
 inc:QdX s x.i x.fr
 lay:Lay (szS s) s.ws x.fr 0 x.os x.i.words.toNat
structure QcM(s:Sp)(L:List Itm):Prop where
 ok:Zn s
 w:SpW s
 each:∀ x∈L,Qa6 s x
 seqs:L.Pairwise λx y=>x.i.seq≠y.i.seq
 all:∀ k (h:k<s.fs.length),¬ s.fs[k].ow = -1->∃ x∈L,k∈x.fr
theorem Qa6.room{s:Sp}(b:Qdx s){x:Itm}(h:Qa6 s x):x.i.words.toNat<=x.fr.length*szS s:=by
 obtain ⟨j,k,l,m,n⟩:=b.z;have f:=b.small;have c:=h.inc.len;have g:=h.inc.wd;obtain ⟨a,ha⟩:∃ a:Nat,x.i.words=a:=⟨x.i.words.toNat,Oo⟩;rw[ha,QdS b.sh Oo]at c;have e:x.fr.length=(a+szS s-1)/szS s:=by omega
 rw[e,ha,Wd];have d:=UV (a+szS s-1) (szS s);have i:=UJ (a+szS s-1) (show 0<szS s by omega);rw[VG]at d;omega
theorem IncC.disj{fs:List Fe}{i j:Inc}{fr fr':List Nat}(h:IncC fs i fr)(e:IncC fs j fr')(b:i.seq≠j.seq):∀ k∈fr,k∉fr':=λk d a=>by have c:=h.ch.lt k d;exact b (((h.ow k c).2 d).symm.trans ((e.ow k c).2 a))
theorem Qc1{fs:List Fe}{k:Nat}(h:k∈Qk fs):∃ h':k<fs.length,fs[k].ow = -1:=by unfold Qk at h;exact isFr_lt (WX.1 h).2
def QdF(s:Sp)(x:Itm)(r d:Nat):Sp:=⟨s.sh,iniW ⟨s.sh,s.ws,Zo s x.i ((1+r+d:Nat):Int)⟩ (adr (szS s) (x.fr++(Qk s.fs).take (exN s x.i ((1+r+d:Nat):Int))) x.i.words.toNat) r d,Zo s x.i ((1+r+d:Nat):Int)⟩
def aloX(s:Sp)(x:Itm)(r d:Nat):Itm:=⟨grw s x.i ((1+r+d:Nat):Int),x.fr++(Qk s.fs).take (exN s x.i ((1+r+d:Nat):Int)),x.os++[(r,d)]⟩
theorem alo_own{s:Sp}(m:Zn s)(G:SpW s){x:Itm}(n:Qa6 s x){r d:Nat}(A:r<=15)(z:d<=32)(o:exN s x.i ((1+r+d:Nat):Int)<=(Qk s.fs).length) :
  Zn (QdF s x r d)/\SpW (QdF s x r d)/\Qa6 (QdF s x r d) (aloX s x r d):=by
 obtain ⟨H,I,J,K,L⟩:=m.shp.z;have v:1<=((1+r+d:Nat):Int)/\((1+r+d:Nat):Int)<=48:=by omega
 have g:=QgL m n.inc v o;obtain ⟨M,N,O⟩:=Qas m.shp n.inc v;have B:=n.inc.wd;have i:(x.fr++(Qk s.fs).take (exN s x.i ((1+r+d:Nat):Int))).length=x.fr.length+exN s x.i ((1+r+d:Nat):Int):=by rw[We,Wf,W5 o]
 have q:x.i.words.toNat+r+d<(x.fr++(Qk s.fs).take (exN s x.i ((1+r+d:Nat):Int))).length*szS s:=by rw[i];omega
 have t:SpW ⟨s.sh,s.ws,Zo s x.i ((1+r+d:Nat):Int)⟩:=⟨G.1,λf o=>by
  obtain ⟨k,y,rfl⟩:=Us o
  have C:=m.shp.hi
  have D:(Zo s x.i ((1+r+d:Nat):Int)).length=s.fs.length:=g.len
  rcases g.sp.fm k y with h | h
  ·obtain ⟨a,b,c,_⟩:=h
   rw[a,b,c]
   unfold I64
   omega
  ·obtain ⟨⟨a,b,c,P,Q,R⟩,S,w,_⟩:=h
   have w:_<((Zo s x.i ((1+r+d:Nat):Int)).length:Int):=w
   unfold I64
   omega⟩
 obtain ⟨E,F⟩:=ini_sp g.sp t g.inc.ch g.inc.nd g.inc.own (p:=x.i.words.toNat) q A z;refine ⟨E,F,?_,?_⟩
 ·have:=g.inc;exact { this.toIncC with wd:=⟨this.wd.1,by show _<=((QdF s x r d).ws.length:Int);rw[show (QdF s x r d).ws.length=s.ws.length from Qf6 ..];exact this.wd.2⟩,len:=this.len }
 ·have u:=n.room m.shp;show Lay (szS s) (QdF s x r d).ws (aloX s x r d).fr 0 (x.os++[(r,d)]) (x.i.words+((1+r+d:Nat):Int)).toNat;rw[show (x.i.words+((1+r+d:Nat):Int)).toNat=x.i.words.toNat+1+r+d by omega];refine Lay.snoc A z (n.lay.congr λk _ y=>⟨ZL Oo Oo,?_⟩) ?_
  ·have:=QcZ (s:=⟨s.sh,s.ws,Zo s x.i ((1+r+d:Nat):Int)⟩) g.sp.shp g.inc.ch g.inc.own (p:=x.i.words.toNat) q (x:=adr (szS s) x.fr k) λj T e=>by rw[<- ZL (l:=(Qk s.fs).take (exN s x.i ((1+r+d:Nat):Int))) (show 0<szS s by omega) (show k<x.fr.length*szS s by omega)]at e;have:=Qcw (show 0<szS s by omega) g.inc.nd (show k<_*szS s by omega) (show x.i.words.toNat+j<_*szS s by omega) e;omega
   exact this
  ·exact iniW_hd (s:=⟨s.sh,s.ws,Zo s x.i ((1+r+d:Nat):Int)⟩) g.sp.shp g.inc.ch g.inc.nd g.inc.own (p:=x.i.words.toNat) q
theorem alo_inv{s:Sp}{A B:List Itm}{x:Itm}(h:QcM s (A++x :: B)){r d:Nat}(U:r<=15)(T:d<=32)(J:exN s x.i ((1+r+d:Nat):Int)<=(Qk s.fs).length):QcM (QdF s x r d) (A++aloX s x r d :: B):=by
 have v:=h.ok;obtain ⟨V,W,X,Y,Z⟩:=v.shp.z;have w:=h.each x Os;have K:1<=((1+r+d:Nat):Int)/\((1+r+d:Nat):Int)<=48:=by omega
 have n:=QgL v w.inc K J;obtain ⟨O,P,Q⟩:=alo_own v h.w w U T J;have z:(aloX s x r d).i.seq=x.i.seq:=n.same.2.1;have F:∀ y,y∈A\/y∈B->x.i.seq≠y.i.seq:=λy hy=>by
  have o:=Ve.1 h.seqs;rcases hy with hy | hy
  ·exact λe=>o.2.2 y hy x Os e.symm
  ·exact (Vw.1 o.2.1).1 y hy
 have C:(Zo s x.i ((1+r+d:Nat):Int)).length=s.fs.length:=n.len;refine ⟨O,P,λy hy=>?_,?_,λk f E=>?_⟩
 ·have hy2:y=aloX s x r d\/y∈A\/y∈B:=by
   rcases Wk.1 hy with h1 | h1
   ·exact .inr (.inl h1)
   ·rcases Wu.1 h1 with h2 | h2
    ·exact .inl h2
    ·exact .inr (.inr h2)
  rcases hy2 with rfl | hy2
  ·exact Q
  ·have c:=h.each y (by rcases hy2 with h1 | h1 <;> simp[h1]);have t:=F y hy2;have D:=w.inc.toIncC.disj c.inc.toIncC t;have l:∀ k∈y.fr,k∉x.fr/\k∉(Qk s.fs).take (exN s x.i ((1+r+d:Nat):Int)):=λk f=>⟨λe=>D k e f,λe=>by
    obtain ⟨R,S⟩:=Qc1 (VJ e)
    exact c.inc.own k f R S⟩
   have m:∀ k (h1:k<s.fs.length) (h2:k<(Zo s x.i ((1+r+d:Nat):Int)).length),k∈y.fr->(Zo s x.i ((1+r+d:Nat):Int))[k]=s.fs[k]:=λk h1 h2 f=>n.other k h1 h2 (l k f).1 (l k f).2;refine ⟨⟨⟨c.inc.sq,c.inc.bl,?_,c.inc.nd,λk f=>?_,λk f g=>?_,c.inc.first,c.inc.last⟩,⟨c.inc.wd.1,?_⟩,c.inc.len⟩,?_⟩
   ·exact c.inc.ch.congr C λk f a b=>by rw[m k a b f]
   ·have f:k<(Zo s x.i ((1+r+d:Nat):Int)).length:=f;have q:k<s.fs.length:=by omega
    by_cases g:k∈y.fr
    ·show (Zo s x.i ((1+r+d:Nat):Int))[k].ow=_<->_;rw[m k q f g];exact c.inc.ow k q
    ·refine ⟨λe=>?_,λe=>absurd e g⟩;exfalso;by_cases i:k∈x.fr++(Qk s.fs).take (exN s x.i ((1+r+d:Nat):Int))
     ·have:=(n.inc.ow k f).2 i;rw[n.same.2.1]at this;exact t (this.symm.trans e)
     ·rw[Wk,not_or]at i;have G:=n.other k q f i.1 i.2;have e:(Zo s x.i ((1+r+d:Nat):Int))[k].ow=y.i.seq:=e;rw[G]at e;exact g ((c.inc.ow k q).1 e)
   ·have f:k<(Zo s x.i ((1+r+d:Nat):Int)).length:=f;show (Zo s x.i ((1+r+d:Nat):Int))[k].st=_;rw[m k Oo f g];exact c.inc.st k Oo g
   ·show _<=((QdF s x r d).ws.length:Int);rw[show (QdF s x r d).ws.length=s.ws.length from Qf6 ..];exact c.inc.wd.2
   ·have H:=c.room v.shp;refine c.lay.congr λk _ f=>⟨rfl,?_⟩;obtain ⟨w1,w2,w3⟩:=Qas v.shp w.inc K;have N:=w.inc.wd;have u:(x.fr++(Qk s.fs).take (exN s x.i ((1+r+d:Nat):Int))).length=x.fr.length+exN s x.i ((1+r+d:Nat):Int):=by rw[We,Wf,W5 J]
    have o:x.i.words.toNat+r+d<(x.fr++(Qk s.fs).take (exN s x.i ((1+r+d:Nat):Int))).length*szS s:=by rw[u];omega
    exact QcZ (s:=⟨s.sh,s.ws,Zo s x.i ((1+r+d:Nat):Int)⟩) n.sp.shp n.inc.ch n.inc.own (p:=x.i.words.toNat) o (x:=adr (szS s) y.fr k) λj hj e=>by
     refine Qem (show 0<szS s by omega) (fr:=y.fr) (fr':=x.fr++(Qk s.fs).take (exN s x.i ((1+r+d:Nat):Int))) (λk f I=>?_) (show k<_*szS s by omega) (show x.i.words.toNat+j<_*szS s by omega) e;rcases Wk.1 I with h1 | h1
     ·exact (l k f).1 h1
     ·exact (l k f).2 h1
 ·have o:=Ve.1 h.seqs;have L:=Vw.1 o.2.1;refine Ve.2 ⟨o.1,Vw.2 ⟨λy hy=>by rw[z];exact L.1 y hy,L.2⟩,λa M b hb=>?_⟩;rcases Wu.1 hb with rfl | hb
  ·rw[z];exact o.2.2 a M x Os
  ·exact o.2.2 a M b (by simp[hb])
 ·have f:k<(Zo s x.i ((1+r+d:Nat):Int)).length:=f;by_cases i:k∈x.fr++(Qk s.fs).take (exN s x.i ((1+r+d:Nat):Int))
  ·exact ⟨aloX s x r d,Os,i⟩
  ·rw[Wk,not_or]at i;have G:=n.other k Oo f i.1 i.2;have E:¬ (Zo s x.i ((1+r+d:Nat):Int))[k].ow = -1:=E;rw[G]at E;obtain ⟨y,hy,g⟩:=h.all k Oo E;rcases Wk.1 hy with h1 | h1
   ·exact ⟨y,by simp[h1],g⟩
   ·rcases Wu.1 h1 with rfl | h2
    ·exact absurd g i.1
    ·exact ⟨y,by simp[h2],g⟩
def obs:Nat->List (Nat×Nat)->List (Nat×Nat×Nat)
 | _,[]=>[]
 | p,(r,d) :: l=>(p,r,d) :: obs (p+1+r+d) l
theorem obs_snoc{z:Nat}{ws:List Int}{fr:List Nat}{r d:Nat}:∀ {l:List (Nat×Nat)} {p q:Nat},Lay z ws fr p l q->obs p (l++[(r,d)])=obs p l++[(q,r,d)]
 | [],p,q,h=>by have h:p=q:=h;subst h;rfl
 | (r',d') :: l,p,q,h=>by show (p,r',d') :: obs _ (l++[(r,d)])=(p,r',d') :: (obs _ l++[(q,r,d)]);rw[obs_snoc h.2.2.2]
theorem Lay.get{z:Nat}{ws:List Int}{fr:List Nat}:∀ {l:List (Nat×Nat)} {p q:Nat},Lay z ws fr p l q->∀ o∈obs p l,p<=o.1/\o.1+1+o.2.1+o.2.2<=q/\o.2.1<=15/\o.2.2<=32/\ws[adr z fr o.1]?=some (hdW o.2.1 o.2.2)
 | [],p,q,h,o,ho=>by cases ho
 | (r,d) :: l,p,q,h,o,ho=>by
  obtain ⟨b,c,e,a⟩:=h;rcases Wu.1 ho with rfl | ho
  ·exact ⟨Wl _,a.le,b,c,e⟩
  ·obtain ⟨i,f,g⟩:=a.get o ho;exact ⟨Oo,f,g⟩
def adrs(s:Sp)(x:Itm):List Int:=(obs 0 x.os).map λ(o:Nat×Nat×Nat)=>((adr (szS s) x.fr o.1:Nat):Int)
theorem QeR{s:Sp}(a:Zn s){fr:List Nat}(e:Chn s.fs fr)(c:Own s.fs fr){p r d:Nat}(h:p+r+d<fr.length*szS s)(i:r<=15)(g:d<=32)(f:s.ws[adr (szS s) fr p]?=some (hdW r d)) :
  Qy s ((adr (szS s) fr p:Nat):Int)=⟨r,d,0⟩/\ShapeR s ((adr (szS s) fr p:Nat):Int)=⟨r,d,0⟩:=by
 have b:Qy s ((adr (szS s) fr p:Nat):Int)=⟨r,d,0⟩:=LookR_mk (by
   have:=go_k (k:=0) a.shp e c (p:=p) Oo
   exact congrArg Prod.snd this) (Xh f) (by unfold QeG;omega) (by
   rw[show (r:Int)+(d:Int)=((r+d:Nat):Int) by push_cast;rfl,go_k a.shp e c Oo])
 exact ⟨b,by rw[ShapeR_t a];exact b⟩
theorem shift_first{s:Sp}(c:Qdx s){f:Int}(i:0<=f/\f<s.fs.length):wu s.sh=s.sh/\0<=s.sh/\Qbv .i64 f s.sh=f*szS s/\0<=f*szS s/\f*szS s<=16384:=by
 obtain ⟨g,l,m,n,h⟩:=c.z;have d:=c.hi;obtain ⟨e,he⟩:∃ e:Nat,s.sh=e:=⟨s.sh.toNat,Oo⟩;have a:0<=f*(szS s:Int)/\f*(szS s:Int)<=16384:=by
  refine ⟨YC i.1 Oo,?_⟩;have j:f*(szS s:Int)<=(64:Int)*(szS s:Int):=Uj Oo Oo;have k:(64:Int)*(szS s:Int)<=64*256:=by omega
  omega
 refine ⟨Xg Oo,g,?_,a.1,a.2⟩;have b:(2:Int)^e=szS s:=by rw[<- h,he,Wd]
 rw[he,shl_pow Oo (by rw[b];omega),b]
theorem first_adr{fs:List Fe}{i:Inc}{fr:List Nat}(h:IncC fs i fr)(b:0<fr.length)(z:Nat):0<=i.first/\i.first<fs.length/\i.first*(z:Int)=((adr z fr 0:Nat):Int):=by
 cases fr with
 | nil=>simp at b
 | cons f l =>have a:i.first=(f:Int):=h.first;have:=h.ch.lt f Os;rw[a];refine ⟨Oo,Oo,?_⟩;unfold adr;simp
theorem all_spec{s:Sp}(e:Zn s)(O:SpW s){x:Itm}(f:Qa6 s x):Qbo s x.i=some (adrs s x,0):=by
 obtain ⟨Q,R,S,T,U⟩:=e.shp.z;have P:=e.shp.small;have c:=f.room e.shp;have A:=f.inc.wd;obtain ⟨n,hn⟩:∃ n:Nat,x.i.words=n:=⟨x.i.words.toNat,Oo⟩;have g:=f.lay;rw[hn,Wd]at g c;unfold Qbo;refine (bndR_eq (b:=adrs s x) ?_).trans rfl;refine loop_to (σ:=List Int×Int) (λj=>∃ (o1 o2:List (Nat×Nat)) (p:Nat),x.os=o1++o2/\Lay (szS s) s.ws x.fr 0 o1 p/\Lay (szS s) s.ws x.fr p o2 n/\j=((obs 0 o1).map (λ(o:Nat×Nat×Nat)=>((adr (szS s) x.fr o.1:Nat):Int)),(p:Int))/\o1.length<=p) (λj=>n-j.2.toNat) ⟨[],x.os,0,rfl,rfl,g,rfl,Wl _⟩ ?_;rintro j ⟨o1,o2,p,h1,h2,h,rfl,h5⟩;have B:=h.le;by_cases X:p<n
 ·refine .inl ?_;cases o2 with
  | nil=>have h:p=n:=h;omega
  | cons o l =>
   obtain ⟨r,d⟩:=o;obtain ⟨v,w,y,z⟩:=h;have u:=z.le;have m:0<x.fr.length:=by
    rcases V5 x.fr.length with h0 | h0
    ·rw[h0]at c;omega
    ·exact h0
   obtain ⟨H,I,J⟩:=first_adr f.inc.toIncC m (szS s);obtain ⟨K,L,M,V,W⟩:=shift_first e.shp ⟨H,I⟩;have i:=go_k (k:=p) e.shp f.inc.ch f.inc.own (p:=0) Oo;rw[W0]at i;obtain ⟨N,_⟩:=QeR e f.inc.ch f.inc.own (p:=p) (r:=r) (d:=d) Oo v w y;have C:=QaJ e.shp f.inc.ch.lt (show p<x.fr.length*szS s by omega);have D:QP s (Qbv .i64 x.i.first s.sh) (p:Int)=some (((adr (szS s) x.fr p:Nat):Int),0):=by rw[M,go_c e.shp (Q2 e.fm) (by unfold I64;omega) (by unfold I64;omega),J,i]
   have E:Zv s ((adr (szS s) x.fr p:Nat):Int)=some ((r:Int),(d:Int),0):=by rw[look_c e.shp (Q2 e.fm) O (by unfold I64;omega),N]
   have q:(obs 0 o1).length=o1.length:=by
    have:∀ (l:List (Nat×Nat)) (p:Nat),(obs p l).length=l.length:=by
     intro l;induction l with
     | nil=>intro p;rfl
     | cons o l ih=>intro p;obtain ⟨a,b⟩:=o;show (obs _ l).length+1=_;rw[ih];rfl
    exact this o1 0
   dsimp only;rw[if_pos (by rw[hn];omega),K,if_pos L,D,WB,E,WB];dsimp only;have F:w64 (w64 (w64 ((p:Int)+1)+r)+d)=((p+1+r+d:Nat):Int):=by rw[Qb (n:=(p:Int)+1) Oo,Qb (n:=(p:Int)+1+r) Oo,Qb Oo];push_cast;rfl
   have G:w64 ((p:Int)+w64 (w64 (1+(r:Int))+d))=((p+1+r+d:Nat):Int):=by rw[Qb (n:=1+(r:Int)) Oo,Qb (n:=1+(r:Int)+d) Oo,Qb Oo];push_cast;omega
   rw[if_pos rfl,F,if_neg (by rw[hn];omega),if_pos (by simp only[Wb,W3,VN,q];omega),G];refine ⟨_,rfl,⟨o1++[(r,d)],l,p+1+r+d,by rw[h1,WI];rfl,h2.snoc v w y,z,?_,by rw[We,WJ];omega⟩,by show n-(((p+1+r+d:Nat):Int)).toNat<n-((p:Nat):Int).toNat;omega⟩;rw[obs_snoc h2,WP];rfl
 ·refine .inr ?_;dsimp only;rw[if_neg (by rw[hn];omega)];have t:p=n:=by omega
  subst t;cases o2 with
  | nil =>rw[W6]at h1;subst h1;rfl
  | cons o l =>obtain ⟨r,d⟩:=o;have:=h.2.2.2.le;omega
theorem QgI{α:Type}{p q:Prop}[Decidable p][Decidable q]{x y:α}(h:p<->q):(if p then x else y)=if q then x else y:=by
 by_cases k:p
 ·rw[if_pos k,if_pos (h.1 k)]
 ·rw[if_neg k,if_neg λc=>k (h.2 c)]
theorem QgP{α γ:Type}(g:γ->α->γ):∀ (l:List (List α)) (t:γ),l.flatten.foldl g t=l.foldl (λt a=>a.foldl g t) t
 | [],t=>rfl
 | a :: l,t=>by rw[Vr,Uo];exact QgP g l _
def sumW(l:List Inc):Int:=l.foldl (λ(n:Int) x=>n+x.words) 0
def WdIn(B:List (List Inc)):Prop:=∀ q∈B,∀ x∈q,0<=x.words/\x.words<=16384
theorem words11_c{B:List (List Inc)}(h:BSz B)(g:WdIn B):Qah B=some (sumW B.flatten):=by
 have o:=h.1;refine Gd.eq ?_;unfold Qah;refine Gd.bind (P:=λb=>b=sumW B.flatten) ?_ λb e=>.some e;unfold sumW;rw[QgP];refine Gd.fold B (λ(t:Int) i=>(t,i)) (λt q=>q.foldl (λ(n:Int) x=>n+x.words) t) 0 (λi t=>0<=t/\t<=163840000*i) rfl (λ_ _=>rfl) Oo Oo (λi c t v=>?_) (λ_=>rfl);have p:=h.2 _ (Wc c);have d:∀ (l:List Inc) (t:Int),(∀ x∈l,0<=x.words/\x.words<=16384)->t<=l.foldl (λ(n:Int) x=>n+x.words) t/\l.foldl (λ(n:Int) x=>n+x.words) t<=t+16384*l.length:=by
  intro l;induction l with
  | nil=>intro t _;simp
  | cons a l ih =>intro t h;have k:=h a (WH ..);have r:=ih (t+a.words) λx m=>h x (Wp _ m);rw[V2,W3];omega
 have s:=d B[i] t (g _ (Wc c));refine ⟨Oo,?_⟩;refine Gd.bind (P:=λb=>b=B[i].foldl (λ(n:Int) x=>n+x.words) t) ?_ λb e=>.some (by rw[e]);refine .atN c ?_;refine Gd.fold B[i] (λ(t:Int) i=>(t,i)) (λ(n:Int) x=>n+x.words) t (λj u=>t<=u/\u<=t+16384*j) rfl (λ_ _=>rfl) Oo Oo (λj f u w=>?_) (λ_=>rfl);have k:=g _ (Wc c) _ (Wc f);refine ⟨Oo,?_⟩;refine .atN f (.some ?_);dsimp only;rw[Qb (n:=u+B[i][j].words) Oo]
def largF(s:Sp)(l:List Inc):Int:=l.foldl (λ(n:Int) x=>max n (clN s x.words)) 0
theorem largest_c{s:Sp}(e:QcQ s.sh){B:List (List Inc)}(h:BSz B)(f:WdIn B):XX s B=some (largF s B.flatten):=by have g:=h.1;refine Gd.eq ?_;unfold XX;refine Gd.bind (P:=λb=>b=largF s B.flatten) ?_ λb a=>.some a;unfold largF;rw[QgP];refine Gd.fold B (λ(t:Int) i=>(t,i)) (λt q=>q.foldl (λ(n:Int) x=>max n (clN s x.words)) t) 0 (λ_ _=>True) rfl (λ_ _=>rfl) Oo trivial (λi c t m=>⟨trivial,?_⟩) (λ_=>rfl);have k:=h.2 _ (Wc c);refine Gd.bind (P:=λb=>b=B[i].foldl (λ(n:Int) x=>max n (clN s x.words)) t) ?_ λb a=>.some (by rw[a]);refine .atN c ?_;refine Gd.fold B[i] (λ(t:Int) i=>(t,i)) (λ(n:Int) x=>max n (clN s x.words)) t (λ_ _=>True) rfl (λ_ _=>rfl) Oo trivial (λj d u o=>⟨trivial,?_⟩) (λ_=>rfl);have l:=f _ (Wc c) _ (Wc d);exact .atN d (.call (Qb2 e (by unfold I64;omega)) (.some rfl))
theorem size_c{s:Sp}(a:QcQ s.sh):QaQ s=some (szS s:Int):=by refine Gd.eq ?_;unfold QaQ;refine .call (rshift_c _) (.pos (Qa5 a) (.pos (Qfn a) (.some ?_)));exact sh_1 a
theorem open_c{s:Sp}(a:QcQ s.sh)(i:Inc)(n:Int):JQ s i n=some (decide (n=0) || decide (i.words<w64 (n*(szS s:Int)))):=by refine Gd.eq ?_;unfold JQ;refine .ite (λh=>.some (by simp[h])) λh=>.call (size_c a) (.some (by simp[h]))
theorem used_c{s:Sp}(h:s.fs.length<=65536):QaP s=some ((s.fs.length:Int)-(Qk s.fs).length):=by
 have a:(Qk s.fs).length<=s.fs.length:=by have:=W9 (isFr s.fs) (List.range s.fs.length);rw[WS]at this;exact this
 unfold QaP;rw[free_ok s h,WB,Wb,Qb Oo]
def Qbg(fs:List Fe)(q:Int):List Fe:=fs.map λf=>if f.ow=q then feF else f
def QcK(z:Nat)(fs:List Fe)(q:Int)(ws:List Int):List Int:=ws.mapIdx λa w=>if isOw fs q (a/z)=true then 0 else w
theorem clear_c{s:Sp}(o:Qdx s)(q:Int):∃ n,Zq s q=some (n,QcK (szS s) s.fs q s.ws,Qbg s.fs q):=by
 obtain ⟨R,S,T,M,U⟩:=Jo o.sh;have z:=o.hi;have E:=o.wl;have F:s.fs.length*szS s<=64*256:=VP z M;suffices h:Gd (λr=>∃ n:Int,r=(n,QcK (szS s) s.fs q s.ws,Qbg s.fs q)) (Zq s q) by obtain ⟨r,c,n,rfl⟩:=h;exact ⟨n,c⟩
 unfold Zq;refine Gd.bind (P:=λb:List Int×List Fe×Int=>b.1=QcK (szS s) s.fs q s.ws/\b.2.1=Qbg s.fs q) ?_ λb v=>.some ⟨b.2.2,by rw[v.1,v.2]⟩;refine Gd.for s.fs.length (λ(t:List Int×List Fe×Int) i=>(t.1,t.2.1,t.2.2,i)) (λi t=>t.1=(s.ws.mapIdx λa w=>if a/szS s<i/\isOw s.fs q (a/szS s)=true then 0 else w)/\t.2.1=(s.fs.mapIdx λk f=>if k<i/\f.ow=q then feF else f)) (s.ws,s.fs,0) rfl (λ_ _=>rfl) Oo
  ⟨?_,?_⟩ (λi B t C=>?_) (λt C=>?_)
 ·dsimp only;apply VR
  ·simp
  ·intro a c g;simp
 ·dsimp only;apply VR
  ·simp
  ·intro a c g;simp
 ·obtain ⟨u,m⟩:=C;have G:t.2.1.length=s.fs.length:=by rw[m];simp
  have H:t.1.length=s.ws.length:=by rw[u];simp
  have j:t.2.1[i]' Oo=s.fs[i]:=by simp[m]
  refine Gd.bind (P:=λb:List Int×List Fe×Int=>b.1=(s.ws.mapIdx λa w=>if a/szS s<i+1/\isOw s.fs q (a/szS s)=true then 0 else w)/\b.2.1=(s.fs.mapIdx λk f=>if k<i+1/\f.ow=q then feF else f)) ?_ λb v=>.some (.inl ⟨(b.1,b.2.1,b.2.2),rfl,v⟩);refine .atN (l:=t.2.1) Oo ?_;have N:(i+1)*szS s=i*szS s+szS s:=Vm _ _;have I:(i+1)*szS s<=s.fs.length*szS s:=Wy _ B;refine .ite (λd=>?_) λd=>.some ⟨?_,?_⟩
  ·refine .pos (Qfn o.sh) ?_;have J:w64 ((i:Int)+1)=((i+1:Nat):Int):=Qb Oo;dsimp only;rw[J,Qgo o.sh i rfl Oo,Qgo o.sh (i+1) rfl Oo];have d:s.fs[i].ow=q:=by rw[<- j];exact d
   refine Gd.loop (λx:List Int×Int=>∃ a:Nat,x.2=a/\i*szS s<=a/\a<=(i+1)*szS s/\x.1=(s.ws.mapIdx λb w=>if (b/szS s<i\/(i*szS s<=b/\b<a))/\isOw s.fs q (b/szS s)=true then 0 else w)) _ (λx=>(i+1)*szS s-x.2.toNat) ⟨i*szS s,rfl,Wl _,Oo,?_⟩ ?_
   ·dsimp only;rw[u];apply VR
    ·simp
    ·intro b c g;simp only[VD];have:¬ (i*szS s<=b/\b<i*szS s):=by omega
     simp[this]
   ·rintro ⟨V,W⟩ ⟨a,rfl,a1,a2,rfl⟩;dsimp only;refine .ite (λD=>?_) λD=>.out ⟨?_,?_⟩
    ·have A:a<s.ws.length:=by omega
     have K:w64 ((a:Int)+1)=((a+1:Nat):Int):=Qb Oo;refine .atN (by simp;exact A) ?_;rw[K,Wd];refine .go ⟨a+1,rfl,Oo,Oo,?_⟩ (by dsimp only;omega);have p:a/szS s=i:=Ya Oo Oo;apply VR
     ·simp
     ·intro b c g;simp only[Ww,Uk]at c g;by_cases e:a=b
      ·subst e;rw[Ui,VD,if_pos];refine ⟨.inr ⟨a1,Oo⟩,?_⟩;rw[p,isOw_at B,d];simp
      ·rw[VS e,VD,VD];refine QgI (and_congr_left λ_=>or_congr_right (and_congr_right λ_=>?_));omega
    ·have L:a=(i+1)*szS s:=by omega
     subst L;dsimp only;apply VR
     ·simp
     ·intro b c g;simp only[VD];refine QgI (and_congr_left λ_=>?_);have O:=VT (x:=b) (y:=i) (show 0<szS s by omega);have Q:=VT (x:=b) (y:=i+1) (show 0<szS s by omega);omega
    ·dsimp only;rw[Wd,m];apply VR
     ·simp
     ·intro k c g;simp only[Ww,Uk]at c g;by_cases e:i=k
      ·subst e;rw[Ui,VD,if_pos ⟨Oo,d⟩]
      ·rw[VS e,VD,VD];exact QgI (and_congr_left λ_=>by omega)
  ·have d:¬ s.fs[i].ow=q:=by rw[<- j];exact d
   dsimp only;rw[u];apply VR
   ·simp
   ·intro b c g;simp only[VD];refine QgI ?_;constructor
    ·exact λh=>⟨Oo,h.2⟩
    ·intro h;refine ⟨?_,h.2⟩;by_cases e:b/szS s=i
     ·rw[e,isOw_at B]at h;exact absurd (by simpa using h.2) d
     ·omega
  ·have d:¬ s.fs[i].ow=q:=by rw[<- j];exact d
   dsimp only;rw[m];apply VR
   ·simp
   ·intro k c g;simp only[Uk]at c;simp only[VD];refine QgI ?_;constructor
    ·exact λh=>⟨Oo,h.2⟩
    ·intro h;refine ⟨?_,h.2⟩;by_cases e:k=i
     ·subst e;exact absurd h.2 d
     ·omega
 ·obtain ⟨u,m⟩:=C;dsimp only;rw[u,m];refine ⟨?_,?_⟩
  ·unfold QcK;apply VR
   ·simp
   ·intro a c g;simp only[Uk]at c;simp only[VD];refine QgI (and_iff_right ?_);exact (VT Oo).2 Oo
  ·unfold Qbg;apply VR
   ·simp
   ·intro k c g;simp only[Uk]at c;simp only[VD,Vt];exact QgI (and_iff_right c)
structure EvS where
 s:Sp
 to:Inc
 mv:List Mov
def cpyW(s:Sp)(a b:Int):Nat->List Int->List Int
 | 0,l=>l
 | n+1,l=>(cpyW s a b n l).set (GoR s b (n:Int)).1.toNat (((cpyW s a b n l)[(GoR s a (n:Int)).1.toNat]?).getD 0)
@[simp] theorem Qgc(s:Sp)(a b:Int)(l:List Int):∀ n,(cpyW s a b n l).length=l.length
 | 0=>rfl
 | n+1=>by unfold cpyW;rw[Ww];exact Qgc s a b l n
theorem QgT(s:Sp)(a b:Int)(n:Nat)(l:List Int):cpyW s a b (n+1) l=(cpyW s a b n l).set (GoR s b (n:Int)).1.toNat (((cpyW s a b n l)[(GoR s a (n:Int)).1.toNat]?).getD 0):=rfl
def mvS(c:EvS)(a:Int)(r d:Int):EvS :=
 let g:Sp:=⟨c.s.sh,c.s.ws,Zo c.s c.to (1+r+d)⟩
 let j:=grw c.s c.to (1+r+d)
 let b:=(GoR g (j.first*2^c.s.sh.toNat) c.to.words).1
 ⟨⟨c.s.sh,(cpyW g a b (r+d+1).toNat c.s.ws).set a.toNat (fwdW b),g.fs⟩,j,c.mv++[⟨a,b⟩]⟩
def mvA(a:EvS)(r d:Int):Int:=(GoR ⟨a.s.sh,a.s.ws,Zo a.s a.to (1+r+d)⟩ ((grw a.s a.to (1+r+d)).first*2^a.s.sh.toNat) a.to.words).1
def mv1(l:List Inc)(a:EvS)(x:Int):EvS×Int:=open Classical in if Qeq a.s l x then if (JW (wAt a.s (x-1))).mv=true then(a,(JW (wAt a.s (x-1))).a+1) else(mvS a (x-1) (Qy a.s (x-1)).r (Qy a.s (x-1)).d,mvA a (Qy a.s (x-1)).r (Qy a.s (x-1)).d+1) else(a,x)
def evK(l:List Inc)(a:EvS):Qp:=⟨a.s,l,a.to,a.mv,0⟩
theorem grw_keep{s:Sp}(p:Zn s){i:Inc}{fr:List Nat}(r:QdX s i fr){n:Int}(t:1<=n/\n<=48)(o:exN s i n<=(Qk s.fs).length){a:List Nat}(q:Chn s.fs a)(f:Own s.fs a)(m:∀ k∈a,k∉fr) :
  Chn (Zo s i n) a/\Own (Zo s i n) a:=by
 have g:=QgL p r t o;have c:∀ k∈a,∀ (h:k<s.fs.length) (d:k<(Zo s i n).length),(Zo s i n)[k]=s.fs[k]:=λk b h d=>by refine g.other k h d (m k b) λl=>?_;obtain ⟨_,j⟩:=Qc1 (VJ l);exact f k b h j
 refine ⟨q.congr g.len λk b h d=>by rw[c k b h d],λk b h=>?_⟩;have e:k<s.fs.length:=by rw[<- g.len];exact h
 rw[c k b e h];exact f k b e
structure SrcP(s:Sp)(fr:List Nat)(a:Int)(frx:List Nat)(p r d:Nat):Prop where
 a:a=((adr (szS s) frx p:Nat):Int)
 ch:Chn s.fs frx
 ow:Own s.fs frx
 dj:∀ k∈frx,k∉fr
 rm:p+r+d<frx.length*szS s
 r15:r<=15
 d32:d<=32
 hd:s.ws[adr (szS s) frx p]?=some (hdW r d)
structure MvP(l:List Inc)(st:EvS)(fr:List Nat)(x:Int):Prop where
 ok:Zn st.s
 w:SpW st.s
 i:QdX st.s st.to fr
 u:U64 x
 ll:l.length<=1000000
 ml:st.mv.length<=100000
 obj:Qeq st.s l x->(JW (wAt st.s (x-1))).e=0/\((JW (wAt st.s (x-1))).mv=false->∃ frx p r d,SrcP st.s fr (x-1) frx p r d/\exN st.s st.to (1+(r:Int)+d)<=(Qk st.s.fs).length)
theorem SrcP.look{s:Sp}{fr:List Nat}{a:Int}{b:List Nat}{p r d:Nat}(c:Zn s)(h:SrcP s fr a b p r d):Qy s a=⟨r,d,0⟩:=by rw[h.a];exact (QeR c h.ch h.ow h.rm h.r15 h.d32 h.hd).1
theorem move_c{l:List Inc}{c:EvS}{fr:List Nat}{x:Int}(h:MvP l c fr x) :
  Qn (evK l c) x=some ((mv1 l c x).2,evK l (mv1 l c x).1,(mv1 l c x).1.s.ws,(mv1 l c x).1.s.fs,(mv1 l c x).1.mv):=by
 obtain ⟨q,W,B,X,ae,af,E⟩:=h;have Z:=XF q;have F:=Q2 q.fm;refine Gd.eq ?_;unfold Qn mv1;refine .pos rfl (.call (Qdm q l Oo X) ?_);refine .ite (λv=>?_) λv=>.some (by rw[if_neg λk=>v (Qa5 k)];rfl);have v:=QI.1 v;rw[if_pos v];obtain ⟨he,hl⟩:=E v;obtain ⟨⟨w0,w1⟩,w2⟩:=v;unfold U64 at X;have e1:w64 (wu (x-1))=x-1:=by rw[Xg (n:=x-1) Oo,Qb Oo]
 have w:(x-1).toNat<c.s.ws.length:=by omega
 have S:U64 (wAt c.s (x-1)):=Qfo W _;have aa:=DecR_rng S;show Gd _ (bndR ((at_ c.s.ws (w64 (wu (x-1)))).bind _) _);rw[e1];refine Gd.bndR (P:=λz=>(z = .inl ()/\(JW (wAt c.s (x-1))).mv=false)\/(z = .inr ((JW (wAt c.s (x-1))).a+1,evK l c,c.s.ws,c.s.fs,c.mv)/\(JW (wAt c.s (x-1))).mv=true)) ?_ (λ_ O=>?_) (λr O=>?_)
 ·refine .at Oo w ?_;rw[<- QcC Oo w];refine .call (decode_c S) (.pos he (.ite (λu=>.some (.inr ⟨?_,u⟩)) λu=>.some (.inl ⟨rfl,by simpa using u⟩)));dsimp only;rw[Qb (n:=(JW (wAt c.s (x-1))).a+1) Oo,Xg Oo];rfl
 ·obtain ⟨_,u⟩ | ⟨h,_⟩:=O
  ·rw[if_neg (by simp[u])];obtain ⟨L,p,r,d,i,o⟩:=hl u;have G:=i.look q;have r15:=i.r15;have ab:=i.d32;refine .call (look_c q.shp F W (by unfold I64;omega)) ?_;rw[G];refine .pos rfl ?_;dsimp only;rw[Qb (n:=1+(r:Int)) Oo,Qb (n:=1+(r:Int)+d) Oo,Qb (n:=(r:Int)+d) Oo];have f:1<=1+(r:Int)+d/\1+(r:Int)+d<=48:=by omega
   have A:=QgM q B f;rw[if_pos o]at A;have j:=QgL q B f o;have H:=j.at q B f o;have I:mvA c r d=((adr (szS c.s) (fr++(Qk c.s.fs).take (exN c.s c.to (1+(r:Int)+d))) c.to.words.toNat:Nat):Int):=by unfold mvA;rw[H]
   rw[<- I]at A;refine .call A (.pos j.len (.pos rfl ?_));dsimp only;have e:Qdx ⟨c.s.sh,c.s.ws,Zo c.s c.to (1+(r:Int)+d)⟩:=j.sp.shp;have g:=Q2 j.sp.fm;have ac:=B.wd;have ad:c.to.words.toNat+1+r+d<=(fr++(Qk c.s.fs).take (exN c.s c.to (1+(r:Int)+d))).length*szS c.s:=by have:=(Qas q.shp B f).1;rw[We,Wf,W5 o];omega
   have t:∀ k:Nat,k<=r+d->GoR ⟨c.s.sh,c.s.ws,Zo c.s c.to (1+(r:Int)+d)⟩ (mvA c r d) (k:Int)=(((adr (szS c.s) (fr++(Qk c.s.fs).take (exN c.s c.to (1+(r:Int)+d))) (c.to.words.toNat+k):Nat):Int),0):=λk Y=>by rw[I];exact go_k (s:=⟨c.s.sh,c.s.ws,Zo c.s c.to (1+(r:Int)+d)⟩) (k:=k) (p:=c.to.words.toNat) e j.inc.toIncC.ch j.inc.toIncC.own (by show _<_*szS c.s;omega)
   obtain ⟨M,N⟩:=grw_keep q B f o i.ch i.ow i.dj;have C:∀ k:Nat,k<=r+d->GoR ⟨c.s.sh,c.s.ws,Zo c.s c.to (1+(r:Int)+d)⟩ (x-1) (k:Int)=(((adr (szS c.s) L (p+k):Nat):Int),0):=λk Y=>by rw[i.a];exact go_k (s:=⟨c.s.sh,c.s.ws,Zo c.s c.to (1+(r:Int)+d)⟩) (k:=k) (p:=p) e M N (by have:=i.rm;show _<_*szS c.s;omega)
   have J:mvA c r d<c.s.ws.length/\0<=mvA c r d:=by have T:=t 0 Oo;have K:=Qg4 (s:=⟨c.s.sh,c.s.ws,Zo c.s c.to (1+(r:Int)+d)⟩) e g (a:=mvA c r d) (k:=((0:Nat):Int)) (by rw[T]);rw[T]at K;dsimp only at K;rw[I];simpa [and_comm] using K
   refine Gd.bind (P:=λb=>b=cpyW ⟨c.s.sh,c.s.ws,Zo c.s c.to (1+(r:Int)+d)⟩ (x-1) (mvA c r d) (r+d+1) c.s.ws) ?_ λb Q=>?_
   ·refine Gd.loop (λy:List Int×Int=>∃ k:Nat,y=(cpyW ⟨c.s.sh,c.s.ws,Zo c.s c.to (1+(r:Int)+d)⟩ (x-1) (mvA c r d) k c.s.ws,(k:Int))/\k<=r+d+1) _ (λy=>r+d+1-y.2.toNat) ⟨0,rfl,WO _⟩ ?_;rintro y ⟨k,rfl,Y⟩;dsimp only;refine .ite (λR=>?_) λR=>.out (by rw[show k=r+d+1 by omega]);have m:(cpyW ⟨c.s.sh,c.s.ws,Zo c.s c.to (1+(r:Int)+d)⟩ (x-1) (mvA c r d) k c.s.ws).length=c.s.ws.length:=by simp
    have D:Qdx ⟨c.s.sh,cpyW ⟨c.s.sh,c.s.ws,Zo c.s c.to (1+(r:Int)+d)⟩ (x-1) (mvA c r d) k c.s.ws,Zo c.s c.to (1+(r:Int)+d)⟩:=⟨e.sh,e.lo,e.hi,by rw[m];exact e.wl⟩;have eA:=GoR_ws (sh:=c.s.sh) (fs:=Zo c.s c.to (1+(r:Int)+d)) (a:=x-1) (k:=(k:Int)) m;have eB:=GoR_ws (sh:=c.s.sh) (fs:=Zo c.s c.to (1+(r:Int)+d)) (a:=mvA c r d) (k:=(k:Int)) m;have kA:=C k Oo;have kB:=t k Oo;refine .call (go_c D g (by unfold I64;omega) (by unfold I64;omega)) (.call (go_c D g (by unfold I64;omega) (by unfold I64;omega)) ?_);rw[eA,eB];have U:=Qg4 (s:=⟨c.s.sh,c.s.ws,Zo c.s c.to (1+(r:Int)+d)⟩) e g (a:=x-1) (k:=(k:Int)) (by rw[kA]);have V:=Qg4 (s:=⟨c.s.sh,c.s.ws,Zo c.s c.to (1+(r:Int)+d)⟩) e g (a:=mvA c r d) (k:=(k:Int)) (by rw[kB]);dsimp only at U V;refine .at U.1 (by rw[m];omega) (.at V.1 (by rw[m];omega) ?_);rw[Qb (n:=(k:Int)+1) Oo];refine .go ⟨k+1,?_,Oo⟩ (by dsimp only;omega);rw[QgT,Wa (show (GoR ⟨c.s.sh,c.s.ws,Zo c.s c.to (1+(r:Int)+d)⟩ (x-1) (k:Int)).1.toNat<(cpyW ⟨c.s.sh,c.s.ws,Zo c.s c.to (1+(r:Int)+d)⟩ (x-1) (mvA c r d) k c.s.ws).length by rw[m];omega),WG];push_cast;rfl
   ·subst Q;refine .call (forward_c ⟨J.2,Oo⟩) ?_;refine .at Oo (by rw[Qgc];exact w) ?_;refine .pos (XP (l:=c.mv) Oo Oo) (.some ?_);rw[Qb (n:=mvA c r d+1) Oo,Xg (n:=mvA c r d+1) Oo];have e3:((r:Int)+d+1).toNat=r+d+1:=by omega
    have e4:(mvS c (x-1) r d)=⟨⟨c.s.sh,(cpyW ⟨c.s.sh,c.s.ws,Zo c.s c.to (1+(r:Int)+d)⟩ (x-1) (mvA c r d) (r+d+1) c.s.ws).set (x-1).toNat (fwdW (mvA c r d)),Zo c.s c.to (1+(r:Int)+d)⟩,grw c.s c.to (1+(r:Int)+d),c.mv++[⟨x-1,mvA c r d⟩]⟩:=by unfold mvS;dsimp only;rw[e3];rfl
    rw[e4];rfl
  ·cases h
 ·obtain ⟨h,_⟩ | ⟨h,u⟩:=O
  ·cases h
  ·injection h with h;rw[if_pos u,h]
theorem pair_cases{α:Type}{R:α->α->Prop}:∀ {l:List α},l.Pairwise R->∀ x∈l,∀ y∈l,x=y\/R x y\/R y x
 | [],_,x,hx,_,_=>by cases hx
 | a :: l,h,x,hx,y,hy=>by
  obtain ⟨c,e⟩:=Vw.1 h;rcases Wu.1 hx with d | m1
  ·rcases Wu.1 hy with b | m2
   ·exact .inl (d.trans b.symm)
   ·exact .inr (.inl (d▸c y m2))
  ·rcases Wu.1 hy with b | m2
   ·exact .inr (.inr (b▸c x m1))
   ·exact pair_cases e x m1 y m2
theorem obs_ge:∀ {l:List (Nat×Nat)} {p:Nat} {o:Nat×Nat×Nat},o∈obs p l->p<=o.1
 | [],p,o,h=>by cases h
 | (r,d) :: l,p,o,h=>by
  rcases Wu.1 h with rfl | h
  ·exact Wl _
  ·have:=obs_ge h;omega
theorem obs_sep:∀ {l:List (Nat×Nat)} {p:Nat} {o a:Nat×Nat×Nat},o∈obs p l->a∈obs p l->o=a\/o.1+1+o.2.1+o.2.2<=a.1\/a.1+1+a.2.1+a.2.2<=o.1
 | [],p,o,a,h,_=>by cases h
 | (r,d) :: l,p,o,a,h,h'=>by
  rcases Wu.1 h with rfl | h
  ·rcases Wu.1 h' with rfl | h'
   ·exact .inl rfl
   ·exact .inr (.inl (obs_ge h'))
  ·rcases Wu.1 h' with rfl | h'
   ·exact .inr (.inr (obs_ge h))
   ·exact obs_sep h h'
def nob:Nat->List (Nat×Nat×Nat)->List (Nat×Nat×Nat×Nat)
 | _,[]=>[]
 | p,(a,r,d) :: M=>(a,p,r,d) :: nob (p+1+r+d) M
def szM:List (Nat×Nat×Nat)->Nat
 | []=>0
 | (_,r,d) :: M=>1+r+d+szM M
theorem szM_snoc:∀ (M:List (Nat×Nat×Nat)) (a r d:Nat),szM (M++[(a,r,d)])=szM M+1+r+d
 | [],a,r,d=>by simp[szM]
 | (b,r',d') :: M,a,r,d=>by show 1+r'+d'+szM (M++[(a,r,d)])=1+r'+d'+szM M+1+r+d;rw[szM_snoc M];omega
theorem nob_snoc:∀ (M:List (Nat×Nat×Nat)) (p a r d:Nat),nob p (M++[(a,r,d)])=nob p M++[(a,p+szM M,r,d)]
 | [],p,a,r,d=>by simp[nob,szM]
 | (b,r',d') :: M,p,a,r,d=>by show (b,p,r',d') :: nob (p+1+r'+d') (M++[(a,r,d)])=(b,p,r',d') :: (nob (p+1+r'+d') M++[(a,p+(1+r'+d'+szM M),r,d)]);rw[nob_snoc M,show p+1+r'+d'+szM M=p+(1+r'+d'+szM M) by omega]
theorem Qcl:∀ (M:List (Nat×Nat×Nat)) (p:Nat),(nob p M).length=M.length
 | [],p=>rfl
 | (b,r',d') :: M,p=>by show (nob _ M).length+1=_;rw[Qcl M];rfl
theorem nob_fst:∀ (M:List (Nat×Nat×Nat)) (p:Nat),(nob p M).map (·.1)=M.map (·.1)
 | [],p=>rfl
 | (b,r',d') :: M,p=>by show b :: (nob _ M).map (·.1)=_;rw[nob_fst M];rfl
theorem QdE:∀ (M:List (Nat×Nat×Nat)) (p:Nat),∀ o∈nob p M,(o.1,o.2.2)∈M
 | [],p,o,h=>by cases h
 | (b,r',d') :: M,p,o,h=>by
  rcases Wu.1 h with rfl | h
  ·exact WH ..
  ·exact Wp _ (QdE M _ o h)
theorem Jp:∀ (M:List (Nat×Nat×Nat)) (p:Nat),∀ o∈nob p M,p<=o.2.1/\o.2.1+1+o.2.2.1+o.2.2.2<=p+szM M
 | [],p,o,h=>by cases h
 | (b,r',d') :: M,p,o,h=>by
  rcases Wu.1 h with rfl | h
  ·exact ⟨Wl _,by show p+1+r'+d'<=p+(1+r'+d'+szM M);omega⟩
  ·have:=Jp M _ o h;exact ⟨Oo,by show _<=p+(1+r'+d'+szM M);omega⟩
theorem nob_sep:∀ (M:List (Nat×Nat×Nat)) (p:Nat),(nob p M).Pairwise λo o'=>o.2.1+1+o.2.2.1+o.2.2.2<=o'.2.1
 | [],p=>.nil
 | (b,r',d') :: M,p=>by refine Vw.2 ⟨λo a=>(Jp M _ o a).1,nob_sep M _⟩
theorem obs_map:∀ (M:List (Nat×Nat×Nat)) (p:Nat),obs p (M.map (·.2))=(nob p M).map (·.2)
 | [],p=>rfl
 | (b,r',d') :: M,p=>by show (p,r',d') :: obs (p+1+r'+d') (M.map (·.2))=_;rw[obs_map M];rfl
theorem obs_append:∀ (l:List (Nat×Nat)) (m:List (Nat×Nat)) (p q:Nat) (z:Nat) (ws:List Int) (fr:List Nat),Lay z ws fr p l q->obs p (l++m)=obs p l++obs q m
 | [],m,p,q,z,ws,fr,h=>by cases h;rfl
 | (r,d) :: l,m,p,q,z,ws,fr,h=>by show (p,r,d) :: obs (p+1+r+d) (l++m)=(p,r,d) :: (obs (p+1+r+d) l++obs q m);rw[obs_append l m _ q z ws fr h.2.2.2]
def ObjZ(z:Nat)(L:List Itm)(a r d:Nat):Prop:=∃ x∈L,∃ p,(p,r,d)∈obs 0 x.os/\a=adr z x.fr p
def allO(z:Nat)(L:List Itm):List (Nat×Nat×Nat):=L.flatMap λx=>(obs 0 x.os).map λo=>(adr z x.fr o.1,o.2)
theorem objZ_iff{z:Nat}{L:List Itm}{a r d:Nat}:ObjZ z L a r d<->(a,r,d)∈allO z L:=by
 unfold ObjZ allO;rw[UP];constructor
 ·rintro ⟨x,b,p,c,rfl⟩;exact ⟨x,b,Wm.2 ⟨(p,r,d),c,rfl⟩⟩
 ·rintro ⟨x,b,h⟩;obtain ⟨⟨p,j,k⟩,c,e⟩:=Wm.1 h;injection e with g f;injection f with f i;subst f;subst i;exact ⟨x,b,p,c,g.symm⟩
theorem sub_sum:∀ (M A:List (Nat×Nat×Nat)),M.Nodup->(∀ o∈M,o∈A)->szM M<=szM A
 | [],A,_,_=>WO _
 | o :: M,A,hn,hs=>by
  obtain ⟨c,b,rfl⟩:=List.append_of_mem (hs o (WH ..));have f:=UB.1 hn;have i:=sub_sum M (c++b) f.2 λq g=>by
   have:=hs q (Wp _ g);rcases Wk.1 this with h | h
   ·exact Wg _ h
   ·rcases Wu.1 h with rfl | h
    ·exact absurd g f.1
    ·exact Wj _ h
  have e:∀ (c b:List (Nat×Nat×Nat)),szM (c++b)=szM c+szM b:=by
   intro c;induction c with
   | nil=>intro b;simp[szM]
   | cons a l ih=>intro b;obtain ⟨a,r,d⟩:=a;show 1+r+d+szM (l++b)=1+r+d+szM l+szM b;rw[ih];omega
  rw[e]at i ⊢;obtain ⟨a,r,d⟩:=o;show 1+r+d+szM M<=szM c+(1+r+d+szM b);omega
theorem szM_append:∀ (c b:List (Nat×Nat×Nat)),szM (c++b)=szM c+szM b
 | [],b=>by simp[szM]
 | (a,r,d) :: l,b=>by show 1+r+d+szM (l++b)=1+r+d+szM l+szM b;rw[szM_append l];omega
theorem szM_lay{z:Nat}{ws:List Int}{fr:List Nat}:∀ {l:List (Nat×Nat)} {p q:Nat},Lay z ws fr p l q->p+szM ((obs p l).map λo=>(adr z fr o.1,o.2))=q
 | [],p,q,h=>by show p+0=q;exact h
 | (r,d) :: l,p,q,h=>by have:=szM_lay h.2.2.2;show p+(1+r+d+szM ((obs (p+1+r+d) l).map λo=>(adr z fr o.1,o.2)))=q;omega
def sumN(C:List Itm):Nat:=(C.map λx=>x.i.words.toNat).sum
theorem szM_all{s:Sp}:∀ {C:List Itm},(∀ x∈C,Qa6 s x)->szM (allO (szS s) C)=sumN C
 | [],_=>rfl
 | x :: C,h=>by have a:=szM_all (C:=C) λy b=>h y (Wp _ b);have c:=szM_lay (h x (WH ..)).lay;unfold allO at a ⊢;rw[Yk,szM_append,a];unfold sumN;rw[Vj,UW];omega
theorem cpyW_get{s:Sp}{a b:Int}{A B:Nat->Nat}{l:List Int}:∀ (n:Nat),(∀ k,k<n->(GoR s a (k:Int)).1.toNat=A k)->(∀ k,k<n->(GoR s b (k:Int)).1.toNat=B k)->(∀ k,k<n->A k<l.length)->(∀ k,k<n->B k<l.length) ->
  (∀ j k,j<n->k<n->B j=B k->j=k)->(∀ j k,j<n->k<n->A j≠B k) ->
  (∀ k,k<n->(cpyW s a b n l)[B k]?=l[A k]?)/\∀ x,(∀ k,k<n->x≠B k)->(cpyW s a b n l)[x]?=l[x]?
 | 0,_,_,_,_,_,_=>⟨λk h=>absurd h (WT _),λx _=>rfl⟩
 | n+1,hA,hB,lA,lB,hi,hd=>by
  obtain ⟨f,c⟩:=cpyW_get n (λk h=>hA k Oo) (λk h=>hB k Oo) (λk h=>lA k Oo) (λk h=>lB k Oo) (λj k f c=>hi j k Oo Oo) λj k f c=>hd j k Oo Oo;have d:(cpyW s a b n l)[A n]?=l[A n]?:=c _ λk g=>hd n k Oo Oo;rw[QgT,hA n Oo,hB n Oo,d,Wa (lA n Oo),WG];refine ⟨λk g=>?_,λx i=>?_⟩
  ·by_cases e:B k=B n
   ·obtain rfl:=hi k n g Oo e;rw[WN (by rw[Qgc];exact lB k Oo),Wa (lA k Oo)]
   ·rw[WK (λh=>e h.symm)];exact f k (by
     rcases Ws k n with h | h
     ·exact h
     ·exact absurd (by rw[show k=n by omega]) e)
  ·rw[WK (λh=>i n Oo h.symm)];exact c x λk g=>i k Oo
theorem cpyW_all{s:Sp}{a b:Int}{p:Int->Prop}{l:List Int}(h:∀ x∈l,p x)(d:p 0):∀ n,∀ x∈cpyW s a b n l,p x
 | 0=>h
 | n+1=>λx c=>by
  rw[QgT]at c;rcases WY c with c | rfl
  ·exact cpyW_all h d n x c
  ·cases hg:(cpyW s a b n l)[(GoR s a (n:Int)).1.toNat]? with
   | none=>exact d
   | some y=>exact cpyW_all h d n y (Wq hg)
theorem IncC.keep{fs a:List Fe}{i:Inc}{fr:List Nat}(h:IncC fs i fr)(n:a.length=fs.length){D:Nat->Prop}(l:∀ k (h:k<fs.length) (h':k<a.length),¬ D k->a[k]=fs[k])(m:∀ k (h':k<a.length),D k->k∉fr/\a[k].ow≠i.seq):IncC a i fr:=by
 have f:∀ k∈fr,∀ (h:k<fs.length) (h':k<a.length),a[k]=fs[k]:=λk b d g=>l k d g λc=>(m k g c).1 b;refine ⟨h.sq,h.bl,h.ch.congr n λk b d g=>by rw[f k b d g],h.nd,λk b=>?_,λk b j=>?_,h.first,h.last⟩
 ·have d:k<fs.length:=by omega
  by_cases c:D k
  ·have:=m k b c;exact ⟨λe=>absurd e this.2,λe=>absurd e this.1⟩
  ·rw[l k d b c];exact h.ow k d
 ·rw[f k j Oo b];exact h.st k Oo j
theorem adr_fr{z:Nat}{fr:List Nat}{p:Nat}(b:0<z)(c:p<fr.length*z):adr z fr p/z∈fr:=by have a:p/z<fr.length:=(VT b).2 c;rw[(QdV b fr p).1,Wa a];exact Wc a
theorem Qed{fs:List Fe}{C:List Itm}(h:∀ x∈C,IncC fs x.i x.fr){k:Nat}:isC fs (C.map Itm.i) k=true<->∃ x∈C,k∈x.fr:=by
 rw[QeS];constructor
 ·rintro ⟨c,b⟩;rw[Va]at b;obtain ⟨x,a,e⟩:=Wm.1 b;exact ⟨x,a,((h x a).ow k c).1 e.symm⟩
 ·rintro ⟨x,a,b⟩;have c:=(h x a).ch.lt k b;refine ⟨c,?_⟩;rw[Va];exact Wm.2 ⟨x,a,(((h x a).ow k c).2 b).symm⟩
def srcA(b:Sp)(a k:Nat):Nat:=(GoR b (a:Int) (k:Int)).1.toNat
def ImgP(a:Sp)(C:List Itm)(mv:List Mov)(w v:Int):Prop:=(¬ Qeq a (C.map Itm.i) w/\v=w)\/(Qeq a (C.map Itm.i) w/\∃ m∈mv,m.frm=w-1/\v=m.to+1)
theorem ImgP.mono{b:Sp}{C:List Itm}{mv a:List Mov}{w v:Int}(h:ImgP b C mv w v)(d:∀ m∈mv,m∈a):ImgP b C a w v:=by
 rcases h with h | ⟨h,m,c,k⟩
 ·exact .inl h
 ·exact .inr ⟨h,m,d m c,k⟩
def RefOk(a:Sp)(C:List Itm)(w:Int):Prop:=Qeq a (C.map Itm.i) w->∃ r d,ObjZ (szS a) C (w-1).toNat r d
def sumF(s:Sp)(C:List Itm):Int:=(C.map λx=>clN s x.i.words).sum
structure EvB(s0:Sp)(C K:List Itm)(T0:Itm):Prop where
 ok:Zn s0
 w:SpW s0
 cs:∀ x∈C,Qa6 s0 x
 ks:∀ x∈K,Qa6 s0 x
 t0:Qa6 s0 T0
 sqT:∀ x∈C++K,x.i.seq≠T0.i.seq
 sqK:∀ x∈C,∀ y∈K,x.i.seq≠y.i.seq
 sqC:∀ x∈C++K,∀ y∈C++K,x.i.seq=y.i.seq->x=y
 own:∀ k (h:k<s0.fs.length),¬ s0.fs[k].ow = -1->k∈T0.fr\/∃ x∈C++K,k∈x.fr
 refs:∀ x∈C,∀ p r d,(p,r,d)∈obs 0 x.os->∀ k,1<=k->k<=r->∀ w,s0.ws[adr (szS s0) x.fr (p+k)]?=some w->RefOk s0 C w
 len:C.length<=1000000
 nd:C.Nodup
structure EvC(s0:Sp)(C K:List Itm)(T0:Itm):Prop extends EvB s0 C K T0 where
 need:sumF s0 C<=(Qk s0.fs).length
def Qfi(z:Nat)(fr:List Nat)(p:Nat)(M:List (Nat×Nat×Nat)):List Mov:=(nob p M).map λo=>⟨(o.1:Int),((adr z fr o.2.1:Nat):Int)⟩
structure Xv(s0:Sp)(C K:List Itm)(T0:Itm)(sn sk:Nat)(st:EvS)(T:Itm)(M:List (Nat×Nat×Nat)):Prop where
 sh:st.s.sh=s0.sh
 wl:st.s.ws.length=s0.ws.length
 fl:st.s.fs.length=s0.fs.length
 ok:Zn st.s
 w:SpW st.s
 to:st.to=T.i
 fr:∃ m,T.fr=T0.fr++(Qk s0.fs).take m/\Qk st.s.fs=(Qk s0.fs).drop m
 inc:QdX st.s T.i T.fr
 sq:T.i.seq=T0.i.seq/\T.i.belt=T0.i.belt/\T.i.words=((T0.i.words.toNat+szM M:Nat):Int)
 os:T.os=T0.os++M.map (·.2)
 mv:st.mv=Qfi (szS s0) T.fr T0.i.words.toNat M
 oth:∀ x∈C++K,IncC st.s.fs x.i x.fr
 own:∀ k (h:k<st.s.fs.length),¬ st.s.fs[k].ow = -1->k∈T.fr\/∃ x∈C++K,k∈x.fr
 src:∀ o∈M,ObjZ (szS s0) C o.1 o.2.1 o.2.2
 nd:(M.map (·.1)).Nodup
 cw:∀ x∈C,∀ p,p<x.fr.length*szS s0->adr (szS s0) x.fr p∉M.map (·.1)->st.s.ws[adr (szS s0) x.fr p]?=s0.ws[adr (szS s0) x.fr p]?
 cf:∀ o∈nob T0.i.words.toNat M,st.s.ws[o.1]?=some (fwdW ((adr (szS s0) T.fr o.2.1:Nat):Int))
 kw:∀ x∈K,∀ p,p<x.fr.length*szS s0->st.s.ws[adr (szS s0) x.fr p]?=s0.ws[adr (szS s0) x.fr p]?
 tw:∀ p,p<T0.i.words.toNat->st.s.ws[adr (szS s0) T.fr p]?=s0.ws[adr (szS s0) T.fr p]?
 hd:∀ o∈nob T0.i.words.toNat M,st.s.ws[adr (szS s0) T.fr o.2.1]?=some (hdW o.2.2.1 o.2.2.2)
 dat:∀ o∈nob T0.i.words.toNat M,∀ k,o.2.2.1<k->k<=o.2.2.1+o.2.2.2->st.s.ws[adr (szS s0) T.fr (o.2.1+k)]?=s0.ws[srcA s0 o.1 k]?
 ref:∀ n o,(nob T0.i.words.toNat M)[n]?=some o->∀ k,1<=k->k<=o.2.2.1 ->
  if n<sn\/(n=sn/\k<=sk) then ∃ w v,s0.ws[srcA s0 o.1 k]?=some w/\st.s.ws[adr (szS s0) T.fr (o.2.1+k)]?=some v/\ImgP s0 C st.mv w v
  else st.s.ws[adr (szS s0) T.fr (o.2.1+k)]?=s0.ws[srcA s0 o.1 k]?
def Qek(z n:Nat):Nat:=(n+z-1)/z
theorem Qgf{z:Nat}(a:0<z)(n:Nat):n<=Qek z n*z:=by have:=(VT (x:=n+z-1) (y:=Qek z n+1) a).1 (Nat.lt_succ_self _);rw[Vk,UH]at this;omega
theorem ceilN_of{z:Nat}(a:0<z){n c:Nat}(h:n<=c*z):Qek z n<=c:=by have:=(VT (x:=n+z-1) (y:=c+1) a).2 (by rw[Vk,UH];omega);show (n+z-1)/z<=c;omega
theorem QgZ{z:Nat}(c:0<z)(a b:Nat):Qek z (a+b)<=Qek z a+Qek z b:=by refine ceilN_of c ?_;rw[Vk];have:=Qgf c a;have:=Qgf c b;omega
theorem ceilN_mono{z:Nat}(c:0<z){a b:Nat}(h:a<=b):Qek z a<=Qek z b:=by refine ceilN_of c ?_;have:=Qgf c b;omega
theorem Qcv{s:Sp}(a:QcQ s.sh){n:Int}(h:0<=n/\n<=1099511627776):clN s n=(Qek (szS s) n.toNat:Nat):=by have:=QdS a (n:=n.toNat) Oo;rw[show ((n.toNat:Nat):Int)=n by omega]at this;exact this
theorem ceil_sum{s:Sp}(a:Zn s):∀ {C:List Itm},(∀ x∈C,Qa6 s x)->(Qek (szS s) (sumN C):Int)<=sumF s C
 | [],_=>by have b:=(Jo a.shp.sh).2.2.1;have:Qek (szS s) (sumN [])<=0:=ceilN_of Oo (by simp[sumN]);simp[sumF];omega
 | x :: C,h=>by
  have b:=(Jo a.shp.sh).2.2.1;have i:=ceil_sum a (C:=C) λy g=>h y (Wp _ g);have j:=(h x (WH ..)).inc.wd;have c:=XF a;have d:=Qcv a.shp.sh (n:=x.i.words) ⟨Oo,Oo⟩;have k:=QgZ (z:=szS s) Oo x.i.words.toNat (sumN C);have e:sumN (x :: C)=x.i.words.toNat+sumN C:=by unfold sumN;rw[Vj,UW]
  have f:sumF s (x :: C)=clN s x.i.words+sumF s C:=by unfold sumF;rw[Vj,UW]
  rw[e,f,d];omega
theorem QdX.room{s:Sp}(a:Zn s){i:Inc}{fr:List Nat}(h:QdX s i fr):i.words.toNat<=fr.length*szS s:=by have d:=(Jo a.shp.sh).2.2.1;have b:=XF a;have e:=h.wd;have c:=h.len;rw[Qcv a.shp.sh ⟨Oo,Oo⟩]at c;have:=Qgf (z:=szS s) Oo i.words.toNat;rw[show fr.length=Qek (szS s) i.words.toNat by omega];exact this
theorem Itm.posOk{s:Sp}(c:Zn s){x:Itm}(b:Qa6 s x){p r d:Nat}(h:(p,r,d)∈obs 0 x.os):p+r+d<x.fr.length*szS s/\r<=15/\d<=32/\s.ws[adr (szS s) x.fr p]?=some (hdW r d):=by have a:=b.lay.get _ h;have e:=b.inc.room c;dsimp only at a;exact ⟨Oo,a.2.2.1,a.2.2.2.1,a.2.2.2.2⟩
section
variable{s0:Sp}{C K:List Itm}{T0:Itm}{sn sk:Nat}{st:EvS}{T:Itm}{M:List (Nat×Nat×Nat)}
theorem Xv.z(h:Xv s0 C K T0 sn sk st T M):szS st.s=szS s0:=by unfold szS;rw[h.sh]
theorem EvB.z0(a:EvB s0 C K T0):8<=szS s0:=(Jo a.ok.shp.sh).2.2.1
theorem ev_isC(d:EvB s0 C K T0)(h:Xv s0 C K T0 sn sk st T M)(k:Nat):isC st.s.fs (C.map Itm.i) k=isC s0.fs (C.map Itm.i) k:=by
 have b:=Qed (k:=k) λx a=>h.oth x (Wg _ a);have c:=Qed (k:=k) λx a=>(d.cs x a).inc.toIncC;cases e1:isC st.s.fs (C.map Itm.i) k <;> cases e2:isC s0.fs (C.map Itm.i) k
 ·rfl
 ·rw[b.2 (c.1 e2)]at e1;cases e1
 ·rw[c.2 (b.1 e1)]at e2;cases e2
 ·rfl
theorem ev_win(a:EvB s0 C K T0)(h:Xv s0 C K T0 sn sk st T M)(x:Int):Qeq st.s (C.map Itm.i) x<->Qeq s0 (C.map Itm.i) x:=by unfold Qeq Jn;rw[h.wl,h.z,ev_isC a h]
theorem Qbf(h:Xv s0 C K T0 sn sk st T M):T0.i.words.toNat+szM M<=T.fr.length*szS s0:=by have:=h.inc.room h.ok;rw[h.z,h.sq.2.2]at this;omega
theorem ev_sum(d:EvB s0 C K T0){M:List (Nat×Nat×Nat)}(c:∀ o∈M,ObjZ (szS s0) C o.1 o.2.1 o.2.2)(a:(M.map (·.1)).Nodup):szM M<=sumN C:=by rw[<- szM_all d.cs];refine sub_sum M _ ?_ λo b=>objZ_iff.1 (c o b);rw[Vd]at a ⊢;rw[Vs]at a;exact a.imp λh e=>h (by rw[e])
theorem sumN_le(a:EvC s0 C K T0):Qek (szS s0) (sumN C)<=(Qk s0.fs).length:=by have b:=ceil_sum a.ok a.cs;have c:=a.need;omega
theorem free_le(fs:List Fe):(Qk fs).length<=fs.length:=by have:=W9 (isFr fs) (List.range fs.length);rw[WS]at this;exact this
theorem sumN_16(c:EvB s0 C K T0):sumN C<=16384:=by
 obtain ⟨w,z,A,n,B⟩:=Jo c.ok.shp.sh;have s:=c.ok.shp.hi;have i:∀ D:List Itm,D.Nodup->(∀ x∈D,x∈C)->sumN D<=(D.flatMap Itm.fr).length*szS s0/\(D.flatMap Itm.fr).Nodup/\∀ k∈D.flatMap Itm.fr,k<s0.fs.length:=by
  intro D;induction D with
  | nil=>exact λ_ _=>⟨by simp[sumN],Os,λk hk=>absurd hk Os⟩
  | cons x D ih =>
   intro m f;rw[UB]at m;obtain ⟨E,i2,i3⟩:=ih m.2 λy d=>f y (Wp _ d);have g:=(c.cs x (f x (WH ..))).inc;have t:=g.room c.ok;rw[Yk];refine ⟨?_,?_,λk hk=>?_⟩
   ·rw[We,Vk];have:sumN (x :: D)=x.i.words.toNat+sumN D:=by unfold sumN;rw[Vj,UW]
    omega
   ·rw[Uq];refine ⟨g.toIncC.nd,i2,λa q b r e=>?_⟩;subst e;obtain ⟨y,d,l⟩:=UP.1 r;have j:=(c.cs y (f y (Wp _ d))).inc;refine g.toIncC.disj j.toIncC (λe=>?_) _ q l;have:=c.sqC x (Wg _ (f x (WH ..))) y (Wg _ (f y (Wp _ d))) e;exact m.1 (this▸d)
   ·rcases Wk.1 hk with hk | hk
    ·exact g.toIncC.ch.lt k hk
    ·exact i3 k hk
 obtain ⟨F,o,p⟩:=i C c.nd λ_ h=>h;have u:=QgA o p;have v:(C.flatMap Itm.fr).length*szS s0<=64*256:=VP Oo n;omega
theorem ev_budget(c:EvC s0 C K T0)(h:Xv s0 C K T0 sn sk st T M){a r d:Nat}(D:ObjZ (szS s0) C a r d)(E:a∉M.map (·.1))(L:r<=15)(J:d<=32):exN st.s T.i (1+(r:Int)+d)<=(Qk st.s.fs).length:=by
 have F:=c.toEvB.z0;have l:=sumN_16 c.toEvB;have b:=ev_sum c.toEvB (M:=M++[(a,r,d)]) (λo hm=>by
  rcases Wk.1 hm with hm | hm
  ·exact h.src o hm
  ·rw[Wn.1 hm];exact D) (by
  rw[WP,Uq]
  refine ⟨h.nd,Os,λx j y k=>?_⟩
  rw[Uz,Wn]at k
  rintro rfl
  rw[k]at j
  exact E j)
 rw[szM_snoc]at b;obtain ⟨m,A,B⟩:=h.fr;have p:=h.inc.wd;have q:=XF h.ok;have f:=h.inc.len;have s:=c.t0.inc.wd;have i:=XF c.ok;have e:=c.t0.inc.len;have t:=h.sq.2.2;rw[Qcv h.ok.shp.sh ⟨Oo,Oo⟩,h.z]at f;rw[Qcv c.ok.shp.sh ⟨Oo,Oo⟩]at e;have g:=(exN_ok h.ok.shp p (n:=1+(r:Int)+d) ⟨Oo,Oo⟩).1;rw[Qcv h.ok.shp.sh ⟨Oo,Oo⟩,Qcv h.ok.shp.sh ⟨Oo,Oo⟩,h.z]at g;have G:=QgZ (z:=szS s0) Oo T0.i.words.toNat (szM M+1+r+d);have H:=ceilN_mono (z:=szS s0) Oo b;have I:=sumN_le c;have u:(T.i.words+(1+(r:Int)+d)).toNat=T0.i.words.toNat+(szM M+1+r+d):=by omega
 rw[u]at g;have v:=congrArg List.length A;have w:=congrArg List.length B;rw[We,Wf]at v;rw[Wv]at w;omega
theorem head_ne(c:EvB s0 C K T0){y:Itm}(m:y∈C){p r d k:Nat}(l:(p,r,d)∈obs 0 y.os)(v:1<=k)(u:k<=r+d){a r' d':Nat}(o:ObjZ (szS s0) C a r' d'):adr (szS s0) y.fr (p+k)≠a:=by
 obtain ⟨x,g,q,i,rfl⟩:=o;have n:=c.z0;have f:=(c.cs y m);have b:=(c.cs x g);have s:=Itm.posOk c.ok f l;have t:=Itm.posOk c.ok b i;intro e;by_cases j:x.i.seq=y.i.seq
 ·obtain rfl:=c.sqC x (Wg _ g) y (Wg _ m) j;have:=Qcw Oo b.inc.nd (p:=p+k) (q:=q) Oo Oo e;rcases obs_sep l i with h | h | h
  ·injection h with h _;omega
  ·dsimp only at h;omega
  ·dsimp only at h;omega
 ·exact Qem Oo (f.inc.toIncC.disj b.inc.toIncC λh=>j h.symm) (p:=p+k) (q:=q) Oo Oo e
theorem Qgm(b:EvB s0 C K T0){y:Itm}(e:y∈C){p r d k:Nat}(c:(p,r,d)∈obs 0 y.os)(g:k<=r+d):srcA s0 (adr (szS s0) y.fr p) k=adr (szS s0) y.fr (p+k):=by have a:=(b.cs y e);have f:=Itm.posOk b.ok a c;unfold srcA;rw[go_k (k:=k) b.ok.shp a.inc.ch a.inc.own Oo];rfl
end
theorem U64_fwd{b:Int}(h:0<=b/\b<16384):U64 (fwdW b):=by unfold U64 fwdW;omega
theorem movs_app{z:Nat}(b:0<z){fr l:List Nat}{p:Nat}{M:List (Nat×Nat×Nat)}(h:p+szM M<=fr.length*z):Qfi z (fr++l) p M=Qfi z fr p M:=by unfold Qfi;refine W7 λo a=>?_;have:=Jp M p o a;rw[ZL b Oo]
set_option maxHeartbeats 1000000 in
theorem ev_new{g:Sp}{C K:List Itm}{z:Itm}{sn sk:Nat}{s:Sp}{mv:List Mov}{T:Itm}{M:List (Nat×Nat×Nat)}(Z:EvB g C K z)(h:Xv g C K z sn sk ⟨s,T.i,mv⟩ T M)(aQ:sn<=M.length/\(sk=0\/sn<M.length)){y:Itm}(R:y∈C){p r d:Nat}(ho:(p,r,d)∈obs 0 y.os)
  (hn:adr (szS g) y.fr p∉M.map (·.1))(Q:exN s T.i (1+(r:Int)+d)<=(Qk s.fs).length) :
  let n:Int:=1+(r:Int)+d
  let t:Itm:=⟨grw s T.i n,T.fr++(Qk s.fs).take (exN s T.i n),T.os++[(r,d)]⟩
  SrcP s T.fr ((adr (szS g) y.fr p:Nat):Int) y.fr p r d/\exN s T.i n<=(Qk s.fs).length/\Xv g C K z sn sk (mvS ⟨s,T.i,mv⟩ ((adr (szS g) y.fr p:Nat):Int) r d) t (M++[(adr (szS g) y.fr p,r,d)]) /\
   mvA ⟨s,T.i,mv⟩ r d=((adr (szS g) t.fr (z.i.words.toNat+szM M):Nat):Int)/\mvA ⟨s,T.i,mv⟩ r d<16384:=by
 intro n t;have Y:Zn s:=h.ok;have aj:SpW s:=h.w;have G:QdX s T.i T.fr:=h.inc;have S:∀ x∈C++K,IncC s.fs x.i x.fr:=h.oth;have hz:=Z.z0;have U:szS s=szS g:=h.z;have aq:=Z.cs y R;obtain ⟨aD,r15,aE,aF⟩:=Itm.posOk Z.ok aq ho;have aa:=S y (Wg _ R);have av:ObjZ (szS g) C (adr (szS g) y.fr p) r d:=⟨y,R,p,ho,rfl⟩;replace Q:exN s T.i n<=(Qk s.fs).length:=Q;have V:1<=n/\n<=48:=by omega
 have i:=QgL Y G V Q;have aw:=i.at Y G V Q;have aK:=G.wd;have aL:=XF Y;have ae:=Qbf h;have aM:=h.sq.2.2;have ak:s.ws[adr (szS g) y.fr p]?=some (hdW r d):=by rw[<- aF];exact h.cw y R p Oo hn
 have ax:∀ k∈y.fr,k∉T.fr:=aa.disj G.toIncC (by rw[h.sq.1];exact Z.sqT y (Wg _ R));have ad:SrcP s T.fr ((adr (szS g) y.fr p:Nat):Int) y.fr p r d:=⟨by rw[U],aa.ch,aa.own,ax,by rw[U];exact aD,r15,aE,by rw[U];exact ak⟩;refine ⟨ad,Q,?_⟩;have ay:T.i.words.toNat=z.i.words.toNat+szM M:=by omega
 have hb:mvA ⟨s,T.i,mv⟩ r d=((adr (szS g) t.fr (z.i.words.toNat+szM M):Nat):Int):=by unfold mvA;show (GoR ⟨s.sh,s.ws,Zo s T.i n⟩ ((grw s T.i n).first*2^s.sh.toNat) T.i.words).1=_;rw[aw,U,ay]
 have aJ:t.fr.length*szS g >= z.i.words.toNat+szM M+1+r+d:=by have:=(Qas Y.shp G V).1;show (T.fr++(Qk s.fs).take (exN s T.i n)).length*szS g >= _;rw[We,Wf,W5 Q,<- U];omega
 have az:∀ k,k<=r+d->GoR ⟨s.sh,s.ws,Zo s T.i n⟩ (mvA ⟨s,T.i,mv⟩ r d) (k:Int)=(((adr (szS g) t.fr (z.i.words.toNat+szM M+k):Nat):Int),0):=λk E=>by rw[hb];have:=go_k (s:=⟨s.sh,s.ws,Zo s T.i n⟩) (fr:=t.fr) (k:=k) (p:=z.i.words.toNat+szM M) i.sp.shp i.inc.toIncC.ch i.inc.toIncC.own (by show _<_*szS s;rw[U];omega);rw[show szS ⟨s.sh,s.ws,Zo s T.i n⟩=szS g from U]at this;exact this
 obtain ⟨aG,ap⟩:=grw_keep Y G V Q ad.ch ad.ow ad.dj;have al:∀ k,k<=r+d->GoR ⟨s.sh,s.ws,Zo s T.i n⟩ ((adr (szS g) y.fr p:Nat):Int) (k:Int)=(((adr (szS g) y.fr (p+k):Nat):Int),0):=λk E=>by have:=go_k (s:=⟨s.sh,s.ws,Zo s T.i n⟩) (fr:=y.fr) (k:=k) (p:=p) i.sp.shp aG ap (by show _<_*szS s;rw[U];omega);rw[show szS ⟨s.sh,s.ws,Zo s T.i n⟩=szS g from U]at this;exact this
 have u:=i.inc.toIncC;have ab:∀ q,q<t.fr.length*szS g->adr (szS g) t.fr q<s.ws.length:=λq P=>by have:=QaJ (s:=⟨s.sh,s.ws,Zo s T.i n⟩) (fr:=t.fr) i.sp.shp u.ch.lt (p:=q) (by show _<_*szS s;rw[U];exact P);rw[show szS ⟨s.sh,s.ws,Zo s T.i n⟩=szS g from U]at this;exact this
 have L:∀ k (I:k<s.fs.length) (J:k<(Zo s T.i n).length),¬ (k∈t.fr)->(Zo s T.i n)[k]=s.fs[k]:=λk I J h3=>i.other k I J (λE=>h3 (Wg _ E)) λE=>h3 (Wj _ E);have W:∀ x∈C++K,∀ k∈x.fr,k∉t.fr:=λx F k E hm=>by
  have ho:=S x F;rcases Wk.1 hm with hm | hm
  ·exact ho.disj G.toIncC (by rw[h.sq.1];exact Z.sqT x F) k E hm
  ·obtain ⟨I,h0⟩:=Qc1 (VJ hm);have:=(ho.ow k I).2 E;have:=ho.sq.1;omega
 have af:∀ x∈C++K,IncC (Zo s T.i n) x.i x.fr:=λx F=>by refine (S x F).keep i.len (D:=λk=>k∈t.fr) L λk I E=>⟨λaI=>W x F k aI E,?_⟩;rw[(u.ow k I).2 E,i.same.2.1,h.sq.1];exact λe=>Z.sqT x F e.symm
 have H:∀ x∈C++K,∀ q q',q<x.fr.length*szS g->q' < t.fr.length*szS g->adr (szS g) x.fr q≠adr (szS g) t.fr q':=λx F q q' I J=>Qem Oo (W x F) I J;have hA:∀ k,k<r+d+1->(GoR ⟨s.sh,s.ws,Zo s T.i n⟩ ((adr (szS g) y.fr p:Nat):Int) (k:Int)).1.toNat=adr (szS g) y.fr (p+k):=λk E=>by rw[al k Oo];rfl
 have hB:∀ k,k<r+d+1->(GoR ⟨s.sh,s.ws,Zo s T.i n⟩ (mvA ⟨s,T.i,mv⟩ r d) (k:Int)).1.toNat=adr (szS g) t.fr (z.i.words.toNat+szM M+k):=λk E=>by rw[az k Oo];rfl
 have lA:∀ k,k<r+d+1->adr (szS g) y.fr (p+k)<s.ws.length:=λk E=>by have:=QaJ Y.shp aa.ch.lt (p:=p+k) (by rw[U];omega);rwa [U]at this
 have lB:∀ k,k<r+d+1->adr (szS g) t.fr (z.i.words.toNat+szM M+k)<s.ws.length:=λk E=>ab _ Oo;obtain ⟨c1,c2⟩:=cpyW_get (s:=⟨s.sh,s.ws,Zo s T.i n⟩) (a:=((adr (szS g) y.fr p:Nat):Int)) (b:=mvA ⟨s,T.i,mv⟩ r d) (l:=s.ws) (A:=λk=>adr (szS g) y.fr (p+k)) (B:=λk=>adr (szS g) t.fr (z.i.words.toNat+szM M+k)) (r+d+1) hA hB lA lB
  (λj k I J e=>by have:=Qcw Oo u.nd (p:=z.i.words.toNat+szM M+j) (q:=z.i.words.toNat+szM M+k) (by show _<t.fr.length*_;omega) (by show _<t.fr.length*_;omega) e;omega)
  (λj k I J=>H y (Wg _ R) _ _ Oo Oo)
 have aA:adr (szS g) y.fr p<s.ws.length:=lA 0 Oo;have e3:((r:Int)+d+1).toNat=r+d+1:=by omega
 have eS:mvS ⟨s,T.i,mv⟩ ((adr (szS g) y.fr p:Nat):Int) r d=⟨⟨s.sh,(cpyW ⟨s.sh,s.ws,Zo s T.i n⟩ ((adr (szS g) y.fr p:Nat):Int) (mvA ⟨s,T.i,mv⟩ r d) (r+d+1) s.ws).set (adr (szS g) y.fr p) (fwdW (mvA ⟨s,T.i,mv⟩ r d)),Zo s T.i n⟩,grw s T.i n,mv++[⟨((adr (szS g) y.fr p:Nat):Int),mvA ⟨s,T.i,mv⟩ r d⟩]⟩:=by unfold mvS;dsimp only;rw[e3];rfl
 rw[eS];generalize hW':(cpyW ⟨s.sh,s.ws,Zo s T.i n⟩ ((adr (szS g) y.fr p:Nat):Int) (mvA ⟨s,T.i,mv⟩ r d) (r+d+1) s.ws).set (adr (szS g) y.fr p) (fwdW (mvA ⟨s,T.i,mv⟩ r d))=ws';have ag:ws'.length=s.ws.length:=by rw[<- hW'];simp
 have w1:ws'[adr (szS g) y.fr p]?=some (fwdW (mvA ⟨s,T.i,mv⟩ r d)):=by rw[<- hW',WN (by rw[Qgc];exact aA)]
 have w2:∀ k,k<=r+d->ws'[adr (szS g) t.fr (z.i.words.toNat+szM M+k)]?=s.ws[adr (szS g) y.fr (p+k)]?:=λk E=>by rw[<- hW',WK (H y (Wg _ R) _ _ Oo Oo)];exact c1 k Oo
 have w3:∀ x,x≠adr (szS g) y.fr p->(∀ k,k<=r+d->x≠adr (szS g) t.fr (z.i.words.toNat+szM M+k))->ws'[x]?=s.ws[x]?:=λx I J=>by rw[<- hW',WK (λe=>I e.symm)];exact c2 x λk E=>J k Oo
 have w4:∀ q,q<z.i.words.toNat+szM M->ws'[adr (szS g) t.fr q]?=s.ws[adr (szS g) T.fr q]?:=λq P=>by have eq:adr (szS g) t.fr q=adr (szS g) T.fr q:=ZL Oo Oo;rw[w3 _ (λe=>H y (Wg _ R) p q Oo Oo e.symm) λk E e=>?_,eq];have:=Qcw Oo u.nd (p:=q) (q:=z.i.words.toNat+szM M+k) (by show _<t.fr.length*_;omega) (by show _<t.fr.length*_;omega) e;omega
 have am:0<=mvA ⟨s,T.i,mv⟩ r d/\mvA ⟨s,T.i,mv⟩ r d<16384:=by rw[hb];have:=ab (z.i.words.toNat+szM M) Oo;omega
 have an:szM (M++[(adr (szS g) y.fr p,r,d)])=szM M+1+r+d:=szM_snoc _ _ _ _;have N:nob z.i.words.toNat (M++[(adr (szS g) y.fr p,r,d)])=nob z.i.words.toNat M++[(adr (szS g) y.fr p,z.i.words.toNat+szM M,r,d)]:=nob_snoc _ _ _ _ _;have ao:∀ o∈nob z.i.words.toNat M,adr (szS g) t.fr o.2.1=adr (szS g) T.fr o.2.1:=λo hm=>by have:=Jp M _ o hm;exact ZL Oo Oo
 have aB:=Qcl M z.i.words.toNat;refine ⟨?_,hb,am.2⟩;refine ⟨h.sh,ag.trans h.wl,i.len.trans h.fl,?_,?_,rfl,?_,?_,?_,?_,?_,af,?_,?_,?_,?_,?_,?_,?_,?_,?_,?_⟩
 ·refine sp_ws i.sp (ws:=ws') ag λk E h0 a I J e=>?_;have e':a/szS g=k:=by rw[<- U];exact e
  have:=w3 a (λea=>?_) λj hj ea=>?_
  ·rw[Wa J,Wa I]at this;injection this
  ·have hm:=adr_fr Oo (show p<y.fr.length*szS g by omega);rw[<- ea,e']at hm;exact ap k hm E h0
  ·have hm:=adr_fr Oo (show z.i.words.toNat+szM M+j<t.fr.length*szS g by omega);rw[<- ea,e']at hm;exact u.own k hm E h0
 ·refine ⟨λx F=>?_,(λf hf=>?_)⟩
  ·dsimp only at F;rw[<- hW']at F;rcases WY F with F | rfl
   ·exact cpyW_all aj.1 (show U64 0 by unfold U64;omega) _ x F
   ·exact U64_fwd am
  ·obtain ⟨k,E,rfl⟩:=WL.1 hf;have O:k<(Zo s T.i n).length:=E;have ac:k<s.fs.length:=by rw[<- i.len];exact O
   by_cases c:k∈t.fr
   ·have q1:=(u.ow k O).2 c;have q2:=u.st k O c;have q3:=u.sq;have q4:=u.bl;have q5:=Q2 i.sp.fm k O;have q6:=i.sp.shp.hi;show I64 (Zo s T.i n)[k].ow/\I64 (Zo s T.i n)[k].st/\I64 (Zo s T.i n)[k].nx;dsimp only at q5 q6;rw[q1,q2];unfold I64;omega
   ·show I64 (Zo s T.i n)[k].ow/\I64 (Zo s T.i n)[k].st/\I64 (Zo s T.i n)[k].nx;rw[L k ac O c];exact aj.2 _ (Wc ac)
 ·obtain ⟨m,m1,m2⟩:=h.fr;refine ⟨m+exN s T.i n,?_,?_⟩
  ·show T.fr++(Qk s.fs).take (exN s T.i n)=_;rw[m1,show Qk s.fs=_ from m2,WI,List.take_add]
  ·show Qk (Zo s T.i n)=_;rw[i.free,show Qk s.fs=_ from m2,UO]
 ·have:=i.inc;exact ⟨this.toIncC,by have:=this.wd;rw[ag];exact this,this.len⟩
 ·exact ⟨i.same.2.1.trans h.sq.1,i.same.2.2.trans h.sq.2.1,by show (grw s T.i n).words=_;rw[i.same.1,an];omega⟩
 ·show T.os++[(r,d)]=_;rw[h.os,WP,WI];rfl
 ·show mv++[_]=_;have:=h.mv;dsimp only at this;unfold Qfi;rw[hb,N,WP,this,<- movs_app (l:=(Qk s.fs).take (exN s T.i n)) Oo ae];rfl
 ·intro k E h0;have O:k<(Zo s T.i n).length:=E;have ac:k<s.fs.length:=by rw[<- i.len];exact O
  by_cases c:k∈t.fr
  ·exact .inl c
  ·have h0:¬ (Zo s T.i n)[k].ow = -1:=h0;rw[L k ac O c]at h0;rcases h.own k ac h0 with q | q
   ·exact absurd (Wg _ q) c
   ·exact .inr q
 ·intro o hm;rcases Wk.1 hm with hm | hm
  ·exact h.src o hm
  ·rw[Wn.1 hm];exact av
 ·rw[WP,Uq];refine ⟨h.nd,Os,λx F q P=>?_⟩;rw[Uz,Wn]at P;rintro rfl;rw[P]at F;exact hn F
 ·intro x F q P hm;rw[WP,Wk]at hm;refine (w3 _ (λe=>hm (.inr (Wn.2 e))) λk E=>H x (Wg _ F) _ _ P Oo).trans (h.cw x F q P λk=>hm (.inl k))
 ·intro o hm;rw[N]at hm;rcases Wk.1 hm with hm | hm
  ·rw[ao o hm];obtain ⟨x,F,q,P,e⟩:=h.src _ (QdE M _ o hm);have aN:=(Itm.posOk Z.ok (Z.cs x F) P).1;dsimp only at e;refine (w3 _ (λe2=>hn ?_) λk E=>?_).trans (h.cf o hm)
   ·rw[<- e2,<- nob_fst M z.i.words.toNat];exact Vc hm
   ·rw[e];exact H x (Wg _ F) _ _ Oo Oo
  ·rw[Wn.1 hm];rw[<- hb];exact w1
 ·intro x F q P;refine (w3 _ (λe=>?_) λk E=>H x (Wj _ F) _ _ P Oo).trans (h.kw x F q P);exact Qem Oo (aa.disj (S x (Wj _ F)) (Z.sqK y R x F)) (p:=p) (q:=q) Oo P e.symm
 ·intro q P;have eq:adr (szS g) t.fr q=adr (szS g) T.fr q:=ZL Oo Oo;show ws'[adr (szS g) t.fr q]?=g.ws[adr (szS g) t.fr q]?;rw[w4 q Oo,eq];exact h.tw q P
 ·intro o hm;rw[N]at hm;rcases Wk.1 hm with hm | hm
  ·have:=Jp M _ o hm;exact (w4 _ Oo).trans (h.hd o hm)
  ·rw[Wn.1 hm];exact (w2 0 Oo).trans ak
 ·intro o hm k I J;rw[N]at hm;rcases Wk.1 hm with hm | hm
  ·have:=Jp M _ o hm;exact (w4 _ Oo).trans (h.dat o hm k I J)
  ·rw[Wn.1 hm]at I J ⊢;dsimp only at I J ⊢;refine (w2 k J).trans ?_;rw[Qgm Z R ho J];refine h.cw y R _ Oo λai=>?_;obtain ⟨o',ah,e⟩:=Wm.1 ai;exact head_ne Z R ho Oo J (h.src o' ah) e.symm
 ·intro j o hj k I J;rw[N]at hj;rcases Ws j (nob z.i.words.toNat M).length with aH | hge
  ·rw[WF aH]at hj;have hm:=Wq hj;have aP:=Jp M _ o hm;have X:=h.ref j o hj k I J;have ew:=w4 (o.2.1+k) Oo;split
   ·rename_i hc;rw[if_pos hc]at X;obtain ⟨w,v,q1,q2,q3⟩:=X;exact ⟨w,v,q1,ew.trans q2,q3.mono λm hm=>Wg _ hm⟩
   ·rename_i hc;rw[if_neg hc]at X;exact ew.trans X
  ·rw[WC hge]at hj;have aC:j=(nob z.i.words.toNat M).length:=by
    rcases Ws (j-(nob z.i.words.toNat M).length) 1 with q | q
    ·omega
    ·rw[Wi (by simpa using q)]at hj;cases hj
   rw[aC,V1]at hj;injection hj with hj;subst hj;dsimp only at J ⊢;rw[if_neg (by rintro (q | ⟨q1,q2⟩) <;> omega)];refine (w2 k Oo).trans ?_;rw[Qgm Z R ho Oo];refine h.cw y R _ Oo λai=>?_;obtain ⟨o',ah,e⟩:=Wm.1 ai;exact head_ne Z R ho Oo Oo (h.src o' ah) e.symm
end Go.Proofs.YthadnbdbfpggdaaGreatDoor
