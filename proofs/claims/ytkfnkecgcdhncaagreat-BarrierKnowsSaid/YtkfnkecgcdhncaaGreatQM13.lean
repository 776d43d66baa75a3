/- Parts of the proof. No condition. -/
import Derived.Test.YtkfnkecgcdhncaaGreatQM0
import Derived.Test.YtkfnkecgcdhncaaGreatQM2
import Derived.Test.YtkfnkecgcdhncaaGreatQM4
import Derived.Test.YtkfnkecgcdhncaaGreatQM5
import Derived.Test.YtkfnkecgcdhncaaGreatQM6
import Derived.Test.YtkfnkecgcdhncaaGreatQM7
import Derived.Test.YtkfnkecgcdhncaaGreatQM8
import Derived.Test.YtkfnkecgcdhncaaGreatQM9
import Derived.Test.YtkfnkecgcdhncaaGreatQM10
import Derived.Test.YtkfnkecgcdhncaaGreatQM11
import Derived.Test.YtkfnkecgcdhncaaGreatQM12
namespace Go.Proofs.YtkfnkecgcdhncaaGreat
open Go.RowKit
set_option linter.unusedSimpArgs false
set_option linter.unusedVariables false
theorem some_b{b:Bool}{p:Prop}(h:b=true<->p):some b=some (bP p):=by
 congr 1
 cases b with
 | true=>~(J5 (h.1 rfl)).symm
 | false=>~(Qdd λhp=>by cases h.2 hp).symm
theorem some_t{p:Prop}(h:p):some true=some (bP p):=by rw [J5 h]
theorem some_f{p:Prop}(h:¬ p):some false=some (bP p):=by rw [Qdd h]
theorem bndR_ok{β ρ:Type}{x:Option (β ⊕ ρ)}{z:β ⊕ ρ}{K:β->Option ρ}{r:Option ρ}(h:x=some z)(k:(match z with | .inl b=>K b | .inr r'=>some r')=r):bndR x K=r:=by
 subst h
 cases z <;> ~k
theorem shl_k{s:Sp}(hs:Qco s.sh){a:Int}(n:Nat)(ha:a=n)(hn:n<=4294967296):Qa9 .i64 a (wu s.sh)=((n*szS s:Nat):Int):=by
 ð⟨g1,g2,g3,g4,g5⟩:=Jm hs
 have hp:n*szS s<=4294967296*256:=V1 hn g4
 rw [Xv Oo,show s.sh=((s.sh.toNat:Nat):Int) by omega,shl_pow Oo (by rw [g5,ha,<- Int.natCast_mul];omega),g5,ha]
 push_cast
 rfl
theorem wu_sh{s:Sp}(hs:Qco s.sh):0<=wu s.sh:=by unfold Qco at hs;rw [Xv Oo];omega
theorem rshift_c(k:Int):ZC k=some (bP (Qco k)):=by
 unfold ZC Qco
 by_cases h:3<=k
 ·rw [if_pos h];~some_b (by simp [h])
 ·rw [if_neg h];~some_f λhp=>h hp.1
theorem shift_c(k:Int):X3 k=some (bP (Qco k)):=rshift_c k
theorem zero_c(l:List Int)(hl:l.length<=9223372036854775807):Qav l=some (bP (AllZ l)):=by
 unfold Qav
 obtain ⟨z,h1,h2⟩:∃ z:Unit ⊕ Bool,Qh (λ(s4:Int) =>
   if s4<(l.length:Int) then
   ((at_ l s4).bind λv9 =>
   if v9=0 then
   (some (.go (w64 (s4+1))))
   else
   some (.out (.inr (false))))
   else
   some (.out (.inl (())))) 0=some z/\((z = .inl ()/\AllZ l)\/(z = .inr false/\¬ AllZ l)):=by
  &Qf3 (λx:Int=>∃ k:Nat,x=k/\k<=l.length/\∀ a (h:a<l.length),a<k->l[a]=0) _ (λx=>l.length-x.toNat) ⟨0,rfl,WT _,λa _ h=>absurd h (WZ _)⟩ ?_
  rintro x ⟨k,rfl,hk,hz⟩
  by_cases hlt:k<l.length
  ·rw [if_pos Oo,Qgp hlt]
   simp only [WQ]
   by_cases h0:l[k]=0
   ·rw [if_pos h0]
    &.inl ⟨_,rfl,⟨k+1,by rw [Qd Oo];rfl,hlt,λa ha h=>?_⟩,by rw [Qd Oo];omega⟩
    by_cases h3:a=k
    ·subst h3;~h0
    ·~hz a ha Oo
   ·rw [if_neg h0]
    ~.inr ⟨_,rfl,.inr ⟨rfl,λh=>h0 (h _ (Wc _))⟩⟩
  ·rw [if_neg Oo]
   &.inr ⟨_,rfl,.inl ⟨rfl,λx hx=>?_⟩⟩
   ð⟨a,ha,rfl⟩:=WN.1 hx
   ~hz a ha Oo
 &bndR_ok h1 ?_
 rcases h2 with ⟨rfl,h2⟩ | ⟨rfl,h2⟩
 ·~some_t h2
 ·~some_f h2
theorem straight_c(s:Sp)(hn:NxIn s.fs)(h64:s.fs.length<=64):Xe s=some (bP (StrF s.fs)):=by
 unfold Xe
 obtain ⟨z,h1,h2⟩:∃ z:Unit ⊕ Bool,Qh (λ(s4:Int) =>
   if s4<(s.fs.length:Int) then
   (bndR ((at_ s.fs s4).bind λv10 =>
   Qh (λ(s12:Int×Int) =>
   if 0<=s12.1 then
   (if s12.2<(s.fs.length:Int) then
   (if s12.1=s4 then
   (some (.out (.inr (.out (.inr (false))))))
   else
   (at_ s.fs s12.1).bind λv20 =>
   some (.go ((v20.nx,w64 (s12.2+1)))))
   else
   some (.out (.inl (()))))
   else
   some (.out (.inl (())))) (v10.nx,0)) λ(b8:Unit) =>
   some (.go (w64 (s4+1))))
   else
   some (.out (.inl (())))) 0=some z/\((z = .inl ()/\StrF s.fs)\/(z = .inr false/\¬ StrF s.fs)):=by
  &Qf3 (λx:Int=>∃ i:Nat,x=i/\i<=s.fs.length/\∀ a,a<i->∀ k,k<s.fs.length->itF s.fs (k+1) a≠a) _ (λx=>s.fs.length-x.toNat) ⟨0,rfl,WT _,λa h=>absurd h (WZ _)⟩ ?_
  rintro x ⟨i,rfl,hi,hs⟩
  by_cases hlt:i<s.fs.length
  ·rw [if_pos Oo,Qgp hlt]
   simp only [WQ]
   obtain ⟨y,k1,k2⟩:∃ y:Unit ⊕ LS Int (Unit ⊕ Bool),Qh (λ(s12:Int×Int) =>
     if 0<=s12.1 then
     (if s12.2<(s.fs.length:Int) then
     (if s12.1=(i:Int) then
     (some (.out (.inr (.out (.inr (false))))))
     else
     (at_ s.fs s12.1).bind λv20 =>
     some (.go ((v20.nx,w64 (s12.2+1)))))
     else
     some (.out (.inl (()))))
     else
     some (.out (.inl (())))) (s.fs[i].nx,0)=some y/\((y = .inl ()/\∀ k,k<s.fs.length->itF s.fs (k+1) i≠i)\/(y = .inr (.out (.inr false))/\¬ StrF s.fs)):=by
    &Qf3 (λx:Int×Int=>∃ m:Nat,x=(itF s.fs (m+1) i,(m:Int))/\m<=s.fs.length/\∀ k,k<m->itF s.fs (k+1) i≠i) _ (λx=>s.fs.length-x.2.toNat) ⟨0,by rw [itF_succ,show itF s.fs 0 (i:Int)=i from rfl,nxF_at hlt];rfl,WT _,λk h=>absurd h (WZ _)⟩ ?_
    rintro x ⟨m,rfl,hm,hk⟩
    dsimp only
    by_cases h0:0<=itF s.fs (m+1) i
    ·rw [if_pos h0]
     by_cases hml:m<s.fs.length
     ·rw [if_pos Oo]
      by_cases he:itF s.fs (m+1) i=i
      ·rw [if_pos he]
       ~.inr ⟨_,rfl,.inr ⟨rfl,λh=>h i hlt m hml he⟩⟩
      ·rw [if_neg he]
       have hb:=hn.it (m+1) i Oo
       rw [at_int h0 Oo]
       simp only [WQ]
       &.inl ⟨_,rfl,⟨m+1,?_,hml,λk h=>?_⟩,by rw [Qd Oo];omega⟩
       ·rw [itF_succ (m+1),nxF_z h0 Oo,Qd Oo];rfl
       ·by_cases h3:k=m
        ·subst h3;~he
        ·~hk k Oo
     ·rw [if_neg Oo]
      ~.inr ⟨_,rfl,.inl ⟨rfl,λk h=>hk k Oo⟩⟩
    ·rw [if_neg h0]
     &.inr ⟨_,rfl,.inl ⟨rfl,λk h=>?_⟩⟩
     by_cases h3:k<m
     ·~hk k h3
     ·have hb:=hn.it (m+1) i Oo
      rw [show k+1=(m+1)+(k-m) by omega,JG,Xz _ Oo]
      omega
   rcases k2 with ⟨rfl,k2⟩ | ⟨rfl,k2⟩
   ·rw [bndR_eq k1]
    &.inl ⟨_,rfl,⟨i+1,by rw [Qd Oo];rfl,hlt,λa ha=>?_⟩,by rw [Qd Oo];omega⟩
    by_cases h3:a=i
    ·subst h3;~k2
    ·~hs a Oo
   ·rw [bndR_eqR k1]
    ~.inr ⟨_,rfl,.inr ⟨rfl,k2⟩⟩
  ·rw [if_neg Oo]
   ~.inr ⟨_,rfl,.inl ⟨rfl,λa ha=>hs a Oo⟩⟩
 &bndR_ok h1 ?_
 rcases h2 with ⟨rfl,h2⟩ | ⟨rfl,h2⟩
 ·~some_t h2
 ·~some_f h2
section
variable{α β ρ σ:Type}{G:α->Prop}
def Gd(G:α->Prop)(v:Option α):Prop:=∃ a,v=some a/\G a
theorem Gd.some{a:α}(h:G a):Gd G (some a):=⟨a,rfl,h⟩
theorem Gd.mono{P:α->Prop}{v:Option α}(h:Gd P v)(k:∀ a,P a->G a):Gd G v:=by
 ð⟨a,h1,h2⟩:=h
 ~⟨a,h1,k a h2⟩
theorem Gd.eq{v:Option α}{a:α}(h:Gd (λx=>x=a) v):v = .some a:=by
 ð⟨b,h1,rfl⟩:=h
 ~h1
theorem Gd.of{v:Option α}{a:α}(h:v = .some a)(k:G a):Gd G v:=⟨a,h,k⟩
theorem Gd.bind{P:β->Prop}{x:Option β}{K:β->Option α}(h:Gd P x)(k:∀ a,P a->Gd G (K a)):Gd G (x.bind K):=by
 ð⟨a,rfl,h2⟩:=h
 ~k a h2
theorem Gd.call{x:Option β}{a:β}{K:β->Option α}(h:x = .some a)(k:Gd G (K a)):Gd G (x.bind K):=by
 subst h
 ~k
theorem Gd.bndR{P:β ⊕ α->Prop}{x:Option (β ⊕ α)}{K:β->Option α}(h:Gd P x)(k:∀ b,P (.inl b)->Gd G (K b))(kr:∀ r,P (.inr r)->G r):Gd G (bndR x K):=by
 ð⟨a,rfl,h2⟩:=h
 cases a with
 | inl b=>~k b h2
 | inr r=>~⟨r,rfl,kr r h2⟩
theorem Gd.ite{p:Prop}[Decidable p]{a b:Option α}(h1:p->Gd G a)(h2:¬ p->Gd G b):Gd G (if p then a else b):=by
 by_cases h:p
 ·rw [if_pos h];~h1 h
 ·rw [if_neg h];~h2 h
theorem Gd.pos{p:Prop}[Decidable p]{a b:Option α}(h:p)(h1:Gd G a):Gd G (if p then a else b):=by rw [if_pos h];~h1
theorem Gd.neg{p:Prop}[Decidable p]{a b:Option α}(h:¬ p)(h1:Gd G b):Gd G (if p then a else b):=by rw [if_neg h];~h1
theorem Gd.at{l:List β}{i:Int}{K:β->Option α}(h0:0<=i)(h:i.toNat<l.length)(k:Gd G (K (l[i.toNat]'h))):Gd G ((at_ l i).bind K):=by rw [at_int h0 h];~k
theorem Gd.atN{l:List β}{i:Nat}{K:β->Option α}(h:i<l.length)(k:Gd G (K l[i])):Gd G ((at_ l (i:Int)).bind K):=by rw [Qgp h];~k
theorem Gd.at0{l:List β}{K:β->Option α}(h:0<l.length)(k:Gd G (K l[0])):Gd G ((at_ l 0).bind K):=Gd.atN (i:=0) h k
theorem Gd.at1{l:List β}{K:β->Option α}(h:1<l.length)(k:Gd G (K l[1])):Gd G ((at_ l 1).bind K):=Gd.atN (i:=1) h k
def LSP(I:σ->Prop)(Q:β->Prop)(μ:σ->Nat)(m:Nat):LS σ β->Prop
 | .go s=>I s/\μ s<m
 | .out b=>Q b
theorem Gd.loop{f:σ->Option (LS σ β)}{s:σ}(I:σ->Prop)(Q:β->Prop)(μ:σ->Nat)(hs:I s)(h:∀ s,I s->Gd (LSP I Q μ (μ s)) (f s)):Gd Q (Qh f s) :=
 Qf3 I Q μ hs λs hs=>by
  ð⟨a,h1,h2⟩:=h s hs
  cases a with
  | go s'=>~.inl ⟨s',h1,h2.1,h2.2⟩
  | out b=>~.inr ⟨b,h1,h2⟩
theorem Gd.go{I:σ->Prop}{Q:β->Prop}{μ:σ->Nat}{m:Nat}{s:σ}(h:I s)(k:μ s<m):Gd (LSP I Q μ m) (.some (LS.go s)):=⟨_,rfl,h,k⟩
theorem Gd.out{I:σ->Prop}{Q:β->Prop}{μ:σ->Nat}{m:Nat}{b:β}(h:Q b):Gd (LSP I Q μ m) (.some (LS.out b)):=⟨_,rfl,h⟩
theorem Gd.count{f:σ->Option (LS σ β)}{s:σ}(J:Nat->σ)(n:Nat)(Q:β->Prop)(I:Nat->Prop)(h0:s=J 0)(hI:I 0)
  (h:∀ k,k<n->I k->Gd (λa=>(∃ s',a=LS.go s'/\s'=J (k+1)/\I (k+1))\/∃ b,a=LS.out b/\Q b) (f (J k)))(hn:I n->Gd (λa=>∃ b,a=LS.out b/\Q b) (f (J n))):Gd Q (Qh f s):=by
 have key:∀ d k,k+d=n->I k->Gd Q (Qh f (J k)):=by
  intro d
  induction d with
  | zero =>
   intro k hk hI
   obtain rfl:k=n:=by omega
   ð⟨a,h1,b,rfl,h2⟩:=hn hI
   ~⟨b,Qcw h1,h2⟩
  | succ d ih =>
   intro k hk hI
   ð⟨a,h1,h2⟩:=h k Oo hI
   rcases h2 with ⟨s',rfl,rfl,h3⟩ | ⟨b,rfl,h3⟩
   ·rw [Qfr h1];~ih (k+1) Oo h3
   ·~⟨b,Qcw h1,h3⟩
 subst h0
 ~key n 0 Oo hI
end
theorem Gd.t{p:Prop}(h:p):Gd (λx=>x=bP p) (.some true):=.some (J5 h).symm
theorem Gd.f{p:Prop}(h:¬ p):Gd (λx=>x=bP p) (.some false):=.some (Qdd h).symm
theorem Gd.b{p:Prop}{b:Bool}(h:b=true<->p):Gd (λx=>x=bP p) (.some b):=.some (by
 cases b with
 | true=>~(J5 (h.1 rfl)).symm
 | false=>~(Qdd λhp=>by cases h.2 hp).symm)
def CntOf(fs:List Fe)(n:Nat)(c:List Int):Prop:=c.length=64/\∀ j (h:j<c.length),(c[j]=0\/c[j]=1)/\(c[j]=1<->∃ i,∃ h:i<fs.length,i<n/\fs[i].nx=j)
theorem CntOf.zero{fs:List Fe}:CntOf fs 0 (List.replicate 64 0):=⟨Os,λj hj=>by
 rw [Yh]
 ~⟨.inl rfl,λh=>absurd h Od,λ⟨i,_,h,_⟩=>by omega⟩⟩
theorem CntOf.skip{fs:List Fe}{n:Nat}{c:List Int}(h:CntOf fs n c)(hn:n<fs.length)(hx:fs[n].nx<0):CntOf fs (n+1) c:=⟨h.1,λj hj=>⟨(h.2 j hj).1,(h.2 j hj).2.trans ⟨λ⟨i,hi,h1,h2⟩=>⟨i,hi,Oo,h2⟩,λ⟨i,hi,h1,h2⟩=>by
 rcases VG.1 h1 with h3 | h3
 ·~⟨i,hi,h3,h2⟩
 ·subst h3;omega⟩⟩⟩
theorem CntOf.set{fs:List Fe}{n p:Nat}{c:List Int}(h:CntOf fs n c)(hn:n<fs.length)(hp:p<c.length)(hx:fs[n].nx=p)(h0:c[p]=0):CntOf fs (n+1) (c.set p (c[p]+1)):=by
 &⟨by rw [Wv];~h.1,λj hj=>?_⟩
 rw [Wv] at hj
 have hb:=h.2 j hj
 by_cases e:j=p
 ·subst e
  rw [UO,h0]
  ~⟨.inr rfl,λ_=>⟨n,hn,Oo,hx⟩,λ_=>rfl⟩
 ·rw [VO (λh=>e h.symm)]
  &⟨hb.1,hb.2.trans ⟨λ⟨i,hi,h1,h2⟩=>⟨i,hi,Oo,h2⟩,λ⟨i,hi,h1,h2⟩=>?_⟩⟩
  rcases VG.1 h1 with h3 | h3
  ·~⟨i,hi,h3,h2⟩
  ·subst h3;omega
theorem UqF.notC{fs:List Fe}{n p:Nat}{c:List Int}(hn:n<fs.length)(hb:CntOf fs n c)(hp:p<c.length)(hx:fs[n].nx=p)(h0:¬ c[p]=0):¬ UqF fs fs.length:=λh=>by
 ð⟨i,hi,h1,h2⟩:=(hb.2 p hp).2.1 (by have:=(hb.2 p hp).1;omega)
 have:=h i n hi hn h1 hn (h2.trans hx.symm)
 omega
theorem ZL.nxIn{s:Sp}(h:ZL s):NxIn s.fs:=Ze h.fm
theorem not_used{s:Sp}{n:Nat}(hn:n<s.fs.length)(h0:¬ s.fs[n].ow = -1)(h:¬ Qez s n s.fs[n]):¬ ZL s:=ZL.not_fm hn λk=>by
 rcases k with k | k
 ·~h0 k.1
 ·~h k
theorem not_free{s:Sp}{n:Nat}(hn:n<s.fs.length)(h0:s.fs[n].ow = -1)(h:¬ FreeF s n s.fs[n]):¬ ZL s:=ZL.not_fm hn λk=>by
 rcases k with k | k
 ·~h k
 ·have:=k.1.1;omega
theorem part_e{α:Type}(l:List α)(k z:Nat):(l.take ((k+1)*z)).drop (k*z)=(l.drop (k*z)).take z:=by
 rw [List.drop_take]
 congr 1
 rw [Vq]
 omega
theorem SpW.at{s:Sp}(h:SpW s){k:Nat}(hk:k<s.fs.length):I64 s.fs[k].ow/\I64 s.fs[k].st/\I64 s.fs[k].nx:=h.2 _ (Wc hk)
theorem shl1{j:Nat}(hj:j<64):0<=(1:Int)*2^j/\(1:Int)*2^j<=18446744073709551615:=by
 have h1:(2:Nat)^j<2^64:=Nat.pow_lt_pow_right Od hj
 have e1:((2:Int)^j)=((2^j:Nat):Int):=by push_cast;rfl
 rw [YE,e1]
 generalize 2^j=x at *
 omega
theorem shru{a:Int}{j:Nat}(h:0<=a/\a<=18446744073709551615)(hj:j<=64):QbO .u64 a (j:Int)=a/2^j:=by
 unfold QbO
 rw [Wd,W7 (show j<=IntKind.u64.bits from hj)]
 ~Ur _ (Wab (Int.pow_pos Od))
theorem shlu1{j:Nat}(hj:j<64):Qa9 .u64 1 (j:Int)=2^j:=by
 unfold Qa9
 rw [Wd,W7 (show j<=IntKind.u64.bits from (by show j<=64;omega)),YE]
 ~Xv (by have:=shl1 hj;rw [YE] at this;~this)
set_option maxHeartbeats 1000000 in
theorem QfI(s:Sp)(hW:SpW s):ZD s=some (bP (ZL s)):=by
 &Gd.eq ?_
 unfold ZD
 &Gd.call (shift_c _) ?_
 &.ite (λhsh=>?_) λhsh=>.f λh=>hsh (J5 h.shp.sh)
 have hsh:Qco s.sh:=QE.1 hsh
 &.ite (λh2=>.f λh=>by have:=h.shp.lo;omega) λh2=>?_
 &.ite (λh64=>.f λh=>by have:=h.shp.hi;omega) λh64=>?_
 &.pos (wu_sh hsh) ?_
 rw [shl_k hsh s.fs.length rfl Oo]
 &.ite (λhw=>?_) λhw=>.f λh=>hw (by rw [h.shp.wl])
 have hw:s.ws.length=s.fs.length*szS s:=by omega
 ð⟨g1,g2,g3,g4,g5⟩:=Jm hsh
 have hwl:s.fs.length*szS s<=64*256:=V1 Oo g4
 &Gd.bndR (P:=λz=>(z = .inl ()/\FmTo s s.fs.length/\UqF s.fs s.fs.length)\/(z = .inr false/\¬ ZL s)) ?_ (λ_ hP=>?_) (λr hP=>by
  rcases hP with ⟨h,_⟩ | ⟨h,hP⟩
  ·cases h
  ·injection h with h;rw [h,Qdd hP])
 ·&Gd.loop (λx:Int×Int=>∃ k m:Nat,x=((m:Int),(k:Int))/\k<=s.fs.length/\FmTo s k/\Qeh s.fs k m/\UqF s.fs k) _ (λx=>s.fs.length-x.2.toNat) ⟨0,0,rfl,WT _,λi _ h=>absurd h (WZ _),⟨Od,λj _=>by simp⟩,λi j _ _ _ h=>absurd h (WZ _)⟩ ?_
  rintro x ⟨k,m,rfl,hk,hfm,hbt,huq⟩
  dsimp only
  &.ite (λhlt=>?_) λhlt=>.out (.inl ⟨rfl,by have e:k=s.fs.length:= Oo;rw [e] at hfm huq;~⟨hfm,huq⟩⟩)
  have hlt:k<s.fs.length:=by omega
  have hpart:k*szS s+szS s<=s.ws.length:=by rw [hw,<- Vq];~V1 hlt (Wl _)
  have hpart2:(k+1)*szS s=k*szS s+szS s:=Vq _ _
  ð⟨i1,i2,i3⟩:=hW.at hlt
  unfold I64 at i1 i2 i3
  have hk1:w64 ((k:Int)+1)=((k+1:Nat):Int):=Qd Oo
  rw [hk1]
  &.atN hlt ?_
  &.ite (λh0=>?_) λh0=>?_
  ·&.ite (λf1=>?_) λf1=>.out (.inr ⟨rfl,not_free hlt h0 λh=>f1 h.2.1⟩)
   &.ite (λf2=>?_) λf2=>.out (.inr ⟨rfl,not_free hlt h0 λh=>f2 h.2.2.1⟩)
   rw [shl_k hsh k rfl Oo,shl_k hsh (k+1) rfl Oo]
   &.pos ⟨Oo,Oo,Oo⟩ ?_
   rw [show ((k*szS s:Nat):Int).toNat=k*szS s from Wd _,show (((k+1)*szS s:Nat):Int).toNat=(k+1)*szS s from Wd _,part_e]
   &.call (zero_c _ (by rw [Wi];omega)) ?_
   &.ite (λf3=>?_) λf3=>.out (.inr ⟨rfl,not_free hlt h0 λh=>f3 (J5 ((allz_iff rfl hpart).2 h.2.2.2))⟩)
   ~.go ⟨k+1,m,rfl,hlt,hfm.step hlt (.inl ⟨h0,f1,f2,(allz_iff rfl hpart).1 (QE.1 f3)⟩),hbt.skip hlt Oo,huq.skip hlt f2⟩ (by dsimp only;omega)
  have nu:¬ Qez s k s.fs[k]->¬ ZL s:=not_used hlt h0
  &.ite (λa1=>.out (.inr ⟨rfl,nu λh=>by have:=(Qek.1 h.1).1;omega⟩)) λa1=>?_
  &.ite (λa2=>.out (.inr ⟨rfl,nu λh=>by have:=(Qek.1 h.1).2.1;omega⟩)) λa2=>?_
  &.ite (λa3=>.out (.inr ⟨rfl,nu λh=>by have:=(Qek.1 h.1).2.2.1;omega⟩)) λa3=>?_
  rw [VT Oo]
  &.ite (λa4=>?_) λa4=>.out (.inr ⟨rfl,nu λh=>a4 (Qek.1 h.1).2.2.2.1⟩)
  rw [V8 Oo,Qd (n:=s.fs[k].st/4294967296) Oo]
  &.ite (λa5=>.out (.inr ⟨rfl,nu λh=>by have:=(Qek.1 h.1).2.2.2.2;omega⟩)) λa5=>?_
  &.ite (λa6=>.out (.inr ⟨rfl,nu λh=>by have:=h.2.1;omega⟩)) λa6=>?_
  &.ite (λa7=>.out (.inr ⟨rfl,nu λh=>by have:=h.2.2.1;omega⟩)) λa7=>?_
  &.ite (λa8=>.out (.inr ⟨rfl,nu λh=>h.2.2.2.1 a8⟩)) λa8=>?_
  have hst0:Stp s.fs[k].ow s.fs[k].st:=Qek.2 ⟨Oo,Oo,Oo,a4,Oo⟩
  &.ite (λh5=>?_) λh5=>?_
  ·have hus:Qez s k s.fs[k]:=⟨hst0,Oo,Oo,a8,λj hj e=>by omega⟩
   ~.go ⟨k+1,m,rfl,hlt,hfm.step hlt (.inr hus),hbt.skip hlt h5,huq.skip hlt Oo⟩ (by dsimp only;omega)
  have hnl:s.fs[k].nx.toNat<s.fs.length:=by omega
  &.at Oo hnl ?_
  have e1:wu s.fs[k].nx=((s.fs[k].nx.toNat:Nat):Int):=by rw [Xv Oo];omega
  rw [e1]
  &.pos Oo ?_
  rw [shru (by have:=hbt.1;omega) Oo,bit_test hbt.1 Oo,shlu1 Oo]
  by_cases hb:m.testBit s.fs[k].nx.toNat=true
  ·rw [if_pos hb]
   &.pos rfl ?_
   ~.out (.inr ⟨rfl,λh=>UqF.not hlt hbt Oo Oo hb h.uq⟩)
  rw [if_neg hb]
  &.neg Od ?_
  &.ite (λho=>?_) λho=>.out (.inr ⟨rfl,nu λh=>ho (h.2.2.2.2 s.fs[k].nx.toNat hnl Oo).1⟩)
  &.ite (λhst=>?_) λhst=>.out (.inr ⟨rfl,nu λh=>hst (h.2.2.2.2 s.fs[k].nx.toNat hnl Oo).2⟩)
  have hus:Qez s k s.fs[k]:=⟨hst0,Oo,Oo,a8,λj hj e=>by
   have e2:j=s.fs[k].nx.toNat:=by omega
   subst e2
   ~⟨ho,hst⟩⟩
  ~.go ⟨k+1,m ||| 2^s.fs[k].nx.toNat,by rw [(bit_set hbt.1 Oo).1],hlt,hfm.step hlt (.inr hus),hbt.set hlt Oo Oo,huq.set (p:=s.fs[k].nx.toNat) hlt hbt Oo Oo (by simpa using hb)⟩ (by dsimp only;omega)
 ·obtain ⟨hfm,huq⟩:FmTo s s.fs.length/\UqF s.fs s.fs.length:=by
   rcases hP with ⟨_,h⟩ | ⟨h,_⟩
   ·~h
   ·cases h
  have hfm':∀ i (h:i<s.fs.length),FreeF s i s.fs[i]\/Qez s i s.fs[i]:=λi hi=>hfm i hi hi
  &.call (straight_c s (Ze hfm') Oo) ?_
  ~.b (QE.trans ⟨λh=>⟨⟨hsh,Oo,Oo,hw⟩,hfm',huq,h.ends (Ze hfm')⟩,λh=>h.ends.str⟩)
def Asc(l:List Int):Prop:=∀ i (h:i+1<l.length),l[i]<l[i+1]
def QT(a b:Qe):Prop:=a.frm<b.frm\/(a.frm=b.frm/\a.to<b.to)
def SetOk(x:Qe):Prop:=(0<=x.frm/\x.frm<64)/\(0<=x.to/\x.to<64)/\0<x.slots.length/\(∀ h:0<x.slots.length,0<=x.slots[0])/\Asc x.slots
def Qo(l:List Qe):Prop:=(∀ x∈l,SetOk x)/\∀ i (h:i+1<l.length),QT l[i] l[i+1]
structure Rng(x:Qe):Prop where
 f0:0<=x.frm
 f1:x.frm<64
 t0:0<=x.to
 t1:x.to<64
theorem SetOk.rng{x:Qe}(h:SetOk x):Rng x:=⟨h.1.1,h.1.2,h.2.1.1,h.2.1.2⟩
theorem keyAt{l:List Qe}{i j i' j':Nat}{hi:i<l.length}{hj:j<l.length}{hi':i' < l.length}{hj':j' < l.length}(e:i=i'/\j=j')(h:QT l[i] l[j]):QT l[i'] l[j']:=by
 ð⟨rfl,rfl⟩:=e
 ~h
theorem in_c(x:Int):XD x=some (bP (0<=x/\x<64)):=by
 unfold XD
 by_cases h:0<=x
 ·rw [if_pos h];~some_b (by simp [h])
 ·rw [if_neg h];~some_f λhp=>h hp.1
noncomputable def cmpV(a b:Qe):Int:=if a.frm=b.frm then a.to-b.to else a.frm-b.frm
theorem Qgl{a b:Qe}(ha:Rng a)(hb:Rng b):Za a b=some (cmpV a b):=by
 ð⟨a1,a2,a3,a4⟩:=ha
 ð⟨b1,b2,b3,b4⟩:=hb
 unfold Za cmpV
 by_cases h:a.frm=b.frm
 ·rw [if_pos h,if_pos h,Qd Oo]
 ·rw [if_neg h,if_neg h,Qd Oo]
theorem QfB{a b:Qe}(ha:Rng a)(hb:Rng b):cmpV a b<0<->QT a b:=by
 unfold cmpV QT
 by_cases h:a.frm=b.frm
 ·rw [if_pos h];omega
 ·rw [if_neg h];omega
theorem cmpV_zero{a b:Qe}:cmpV a b=0<->a.frm=b.frm/\a.to=b.to:=by
 unfold cmpV
 by_cases h:a.frm=b.frm
 ·rw [if_pos h];omega
 ·rw [if_neg h];omega
theorem before_c(a b:Qe):Xm a b=some (bP (QT a b)):=by
 unfold Xm QT
 by_cases h:a.frm<b.frm
 ·rw [if_pos h];~some_t (.inl h)
 rw [if_neg h]
 by_cases h2:a.frm=b.frm
 ·rw [if_pos h2];~some_b (by rw [decide_eq_true_iff];~⟨λk=>.inr ⟨h2,k⟩,λk=>by omega⟩)
 ·rw [if_neg h2];~some_f Oo
set_option maxHeartbeats 1000000 in
theorem sets_c(l:List Qe)(hl:l.length<=4294967296)(hsl:∀ x∈l,x.slots.length<=4294967296):Xh l=some (bP (Qo l)):=by
 &Gd.eq ?_
 unfold Xh
 &Gd.bndR (P:=λz=>(z = .inl ()/\Qo l)\/(z = .inr false/\¬ Qo l)) ?_ (λ_ hP=>?_) (λr hP=>?_)
 ·&Gd.loop (λx:Int=>∃ k:Nat,x=k/\k<=l.length/\(∀ i (h:i<l.length),i<k->SetOk l[i])/\∀ i (h:i+1<l.length),i+1<k->QT l[i] l[i+1]) _ (λx=>l.length-x.toNat) ⟨0,rfl,WT _,λi _ h=>absurd h (WZ _),λi _ h=>absurd h (WZ _)⟩ ?_
  rintro x ⟨k,rfl,hk,hok,hkey⟩
  &.ite (λhlt=>?_) λhlt=>.out (.inl ⟨rfl,λx hx=>?_,λi h=>hkey i h Oo⟩)
  ·have hlt:k<l.length:=by omega
   have hk1:w64 ((k:Int)+1)=((k+1:Nat):Int):=Qd Oo
   have hx:=hsl _ (Wc hlt)
   have nu:¬ SetOk l[k]->¬ Qo l:=λh k=>h (k.1 _ (Wc hlt))
   &Gd.bndR (P:=λz=>(z = .inl ()/\SetOk l[k]/\∀ h:k-1+1<l.length,0<k->QT l[k-1] l[k-1+1])\/(z = .inr (.out (.inr false))/\¬ Qo l)) ?_ (λ_ hP=>?_) (λr hP=>?_)
   ·&.atN hlt ?_
    have hst:∀ i (h:i<l.length),i<k->Rng l[i]:=λi h hik=>(hok i h hik).rng
    &.call (in_c _) ?_
    &.ite (λhf=>?_) λhf=>.some (.inr ⟨rfl,nu λh=>hf (J5 h.1)⟩)
    ð⟨hf1,hf2⟩:=QE.1 hf
    &.call (in_c _) ?_
    &.ite (λht=>?_) λht=>.some (.inr ⟨rfl,nu λh=>ht (J5 h.2.1)⟩)
    ð⟨ht1,ht2⟩:=QE.1 ht
    have fin:(hkk:∀ h:k-1+1<l.length,0<k->QT l[k-1] l[k-1+1])->(hn:¬ (l[k].slots.length:Int)=0)->(h0:¬ l[k].slots[0]' Oo<0)->∀ z:Unit ⊕ LS Int (Unit ⊕ Bool),((z = .inl ()/\Asc l[k].slots)\/(z = .inr (.out (.inr false))/\¬ Asc l[k].slots))->(z = .inl ()/\SetOk l[k]/\∀ h:k-1+1<l.length,0<k->QT l[k-1] l[k-1+1])\/(z = .inr (.out (.inr false))/\¬ Qo l):=λhkk hn h0 z hz=>by
     rcases hz with ⟨rfl,h⟩ | ⟨rfl,h⟩
     ·~.inl ⟨rfl,⟨⟨hf1,hf2⟩,⟨ht1,ht2⟩,Oo,λ_=>by omega,h⟩,hkk⟩
     ·~.inr ⟨rfl,nu λk=>h k.2.2.2.2⟩
    &.ite (λh0=>?_) λh0=>?_
    ·
     have e3:w64 ((k:Int)-1)=((k-1:Nat):Int):=by rw [Qd Oo];omega
     rw [e3]
     &.atN (show k-1<l.length by omega) ?_
     &.call (Qgl (hst (k-1) Oo Oo) ⟨hf1,hf2,ht1,ht2⟩) ?_
     &.ite (λhlt2=>.some (.inr ⟨rfl,λh=>by have:=(QfB (hst (k-1) Oo Oo) ⟨hf1,hf2,ht1,ht2⟩).2 (h.2 (k-1) Oo |> keyAt Oo);omega⟩)) λhlt2=>?_
     have hky:QT l[k-1] l[k]:=(QfB (hst (k-1) Oo Oo) ⟨hf1,hf2,ht1,ht2⟩).1 Oo
     have hkk:∀ h:k-1+1<l.length,0<k->QT l[k-1] l[k-1+1]:=λh _=>keyAt Oo hky
     &.ite (λhn=>.some (.inr ⟨rfl,nu λh=>by have:=h.2.2.1;omega⟩)) λhn=>?_
     &.at0 (show 0<l[k].slots.length by omega) ?_
     &.ite (λhs0=>.some (.inr ⟨rfl,nu λh=>by have:=h.2.2.2.1 Oo;omega⟩)) λhs0=>?_
     &Gd.mono ?_ (fin hkk hn hs0)
     &Gd.loop (λx:Int=>∃ i:Nat,x=i/\1<=i/\i<=l[k].slots.length/\∀ j (h:j+1<l[k].slots.length),j+1<i->l[k].slots[j]<l[k].slots[j+1]) _ (λx=>l[k].slots.length-x.toNat) ⟨1,rfl,Wl _,Oo,λj _ h=>by omega⟩ ?_
     rintro x ⟨i,rfl,hi1,hi2,hasc⟩
     &.ite (λhi=>?_) λhi=>.out (.inl ⟨rfl,λj h=>hasc j h Oo⟩)
     have hi:i<l[k].slots.length:=by omega
     have e2:w64 ((i:Int)-1)=((i-1:Nat):Int):=by rw [Qd Oo];omega
     have e4:w64 ((i:Int)+1)=((i+1:Nat):Int):=Qd Oo
     rw [e2,e4]
     &.atN hi ?_
     &.atN (show i-1<_ by omega) ?_
     &.ite (λhle=>.out (.inr ⟨rfl,λh=>by have:=h (i-1) Oo;simp only [show i-1+1=i by omega] at this;omega⟩)) λhle=>?_
     &.go ⟨i+1,rfl,Oo,hi,λj h hj=>?_⟩ Oo
     by_cases h5:j+1=i
     ·obtain rfl:j=i-1:=by omega
      simp only [show i-1+1=i by omega]
      omega
     ·~hasc j h Oo
    ·
     have hkk:∀ h:k-1+1<l.length,0<k->QT l[k-1] l[k-1+1]:=λh h'=>absurd h' Oo
     &.ite (λhn=>.some (.inr ⟨rfl,nu λh=>by have:=h.2.2.1;omega⟩)) λhn=>?_
     &.at0 (show 0<l[k].slots.length by omega) ?_
     &.ite (λhs0=>.some (.inr ⟨rfl,nu λh=>by have:=h.2.2.2.1 Oo;omega⟩)) λhs0=>?_
     &Gd.mono ?_ (fin hkk hn hs0)
     &Gd.loop (λx:Int=>∃ i:Nat,x=i/\1<=i/\i<=l[k].slots.length/\∀ j (h:j+1<l[k].slots.length),j+1<i->l[k].slots[j]<l[k].slots[j+1]) _ (λx=>l[k].slots.length-x.toNat) ⟨1,rfl,Wl _,Oo,λj _ h=>by omega⟩ ?_
     rintro x ⟨i,rfl,hi1,hi2,hasc⟩
     &.ite (λhi=>?_) λhi=>.out (.inl ⟨rfl,λj h=>hasc j h Oo⟩)
     have hi:i<l[k].slots.length:=by omega
     have e2:w64 ((i:Int)-1)=((i-1:Nat):Int):=by rw [Qd Oo];omega
     have e4:w64 ((i:Int)+1)=((i+1:Nat):Int):=Qd Oo
     rw [e2,e4]
     &.atN hi ?_
     &.atN (show i-1<_ by omega) ?_
     &.ite (λhle=>.out (.inr ⟨rfl,λh=>by have:=h (i-1) Oo;simp only [show i-1+1=i by omega] at this;omega⟩)) λhle=>?_
     &.go ⟨i+1,rfl,Oo,hi,λj h hj=>?_⟩ Oo
     by_cases h5:j+1=i
     ·obtain rfl:j=i-1:=by omega
      simp only [show i-1+1=i by omega]
      omega
     ·~hasc j h Oo
   ·rcases hP with ⟨_,h1,h2⟩ | ⟨h,_⟩
    ·rw [hk1]
     &.go ⟨k+1,rfl,hlt,λi h hi=>?_,λi h hi=>?_⟩ Oo
     ·by_cases h3:i=k
      ·subst h3;~h1
      ·~hok i h Oo
     ·by_cases h3:i+1=k
      ·obtain rfl:i=k-1:=by omega
       ~h2 h Oo
      ·~hkey i h Oo
    ·cases h
   ·rcases hP with ⟨h,_⟩ | ⟨h,hP⟩
    ·cases h
    ·injection h with h
     subst h
     ~.inr ⟨rfl,hP⟩
  ·ð⟨i,hi,rfl⟩:=WN.1 hx
   ~hok i hi Oo
 ·rcases hP with ⟨_,h⟩ | ⟨h,_⟩
  ·~.t h
  ·cases h
 ·rcases hP with ⟨h,_⟩ | ⟨h,hP⟩
  ·cases h
  ·injection h with h;rw [h,Qdd hP]
theorem Qbp{α:Type}{p:α->Bool}:∀ {l:List α} {i:Nat},i<=l.length->(∀ j (h:j<l.length),j<i->p l[j]=false)->(∀ h:i<l.length,p l[i]=true)->l.findIdx p=i
 | [],i,hi,_,_=>by simp at hi;subst hi;rfl
 | x :: l,0,_,_,h2=>by
  have:p x=true:=h2 Os
  rw [List.findIdx_cons,this];rfl
 | x :: l,i+1,hi,h1,h2=>by
  have h0:p x=false:=h1 0 Os Oo
  have:=Qbp (p:=p) (l:=l) (i:=i) (by simpa using hi) (λj h hj=>by
   have:=h1 (j+1) (by simpa using h) Oo
   simpa using this) (λh=>by
   have:=h2 (by simpa using h)
   simpa using this)
  rw [List.findIdx_cons,h0,this];rfl
theorem findIdx_le{α:Type}(p:α->Bool)(l:List α):l.findIdx p<=l.length:=List.findIdx_le_length
noncomputable def X4(l:List Qe)(t:Qe):Nat:=l.findIdx λx=>!bP (QT x t)
noncomputable def Qbo(l:List Int)(s:Int):Nat:=l.findIdx λx=>!bP (x<s)
theorem QT.trans{a b c:Qe}(h:QT a b)(k:QT b c):QT a c:=by unfold QT at *;omega
theorem QT.irrefl{a:Qe}(h:QT a a):False:=by unfold QT at h;omega
theorem adj_all{α:Type}{R:α->α->Prop}(ht:∀ {a b c},R a b->R b c->R a c){l:List α}(h:∀ i (h:i+1<l.length),R l[i] l[i+1]):∀ (d i:Nat) (hj:i+d+1<l.length),R (l[i]' Oo) l[i+d+1]
 | 0,i,hj=>h i hj
 | d+1,i,hj=>ht (b:=l[i+d+1]' Oo) (adj_all (l:=l) @ht h d i Oo) (h (i+d+1) hj)
theorem Qo.lt{l:List Qe}(h:Qo l){i j:Nat}(hij:i<j)(hj:j<l.length):QT (l[i]' Oo) l[j]:=by
 obtain ⟨d,rfl⟩:∃ d,j=i+d+1:=⟨j-i-1,Oo⟩
 ~adj_all (R:=QT) QT.trans h.2 d i hj
theorem Asc.lt{l:List Int}(h:Asc l){i j:Nat}(hij:i<j)(hj:j<l.length):l[i]' Oo<l[j]:=by
 obtain ⟨d,rfl⟩:∃ d,j=i+d+1:=⟨j-i-1,Oo⟩
 ~adj_all (R:=λa b:Int=>a<b) (λa b=>by omega) h d i hj
theorem posK_of{l:List Qe}{t:Qe}{i:Nat}(hi:i<=l.length)(h1:∀ j (h:j<l.length),j<i->QT l[j] t)(h2:∀ h:i<l.length,¬ QT l[i] t):X4 l t=i :=
 Qbp hi (λj h hj=>by rw [J5 (h1 j h hj)];rfl) λh=>by rw [Qdd (h2 h)];rfl
theorem posI_of{l:List Int}{s:Int}{i:Nat}(hi:i<=l.length)(h1:∀ j (h:j<l.length),j<i->l[j]<s)(h2:∀ h:i<l.length,¬ l[i]<s):Qbo l s=i :=
 Qbp hi (λj h hj=>by rw [J5 (h1 j h hj)];rfl) λh=>by rw [Qdd (h2 h)];rfl
theorem Qeo(l:List Qe)(t:Qe):X4 l t<=l.length:=findIdx_le _ _
theorem QfT(l:List Int)(s:Int):Qbo l s<=l.length:=findIdx_le _ _
theorem mid{i j:Nat}(h:i+j<=9223372036854775807):w64 (QbO .u64 (wu (w64 ((i:Int)+(j:Int)))) 1)=(((i+j)/2:Nat):Int):=by
 rw [Qd (n:=(i:Int)+(j:Int)) Oo,Xv Oo]
 have:=shru (a:=(i:Int)+(j:Int)) (j:=1) Oo Oo
 rw [show ((1:Nat):Int)=1 from rfl] at this
 rw [this,Qd Oo]
 omega
theorem find_c{l:List Qe}(hl:Qo l)(hlen:l.length<=4294967296){t:Qe}(ht:Rng t):Qu l t=some (((X4 l t:Nat):Int),bP (∃ h:X4 l t<l.length,l[X4 l t].frm=t.frm/\l[X4 l t].to=t.to)):=by
 &Gd.eq ?_
 unfold Qu
 have hr:∀ i (h:i<l.length),Rng l[i]:=λi h=>(hl.1 _ (Wc h)).rng
 &Gd.bind (P:=λb:Int=>b=(X4 l t:Nat)) ?_ λb hb=>?_
 ·&Gd.loop (λx:Int×Int=>∃ i j:Nat,x=((i:Int),(j:Int))/\i<=j/\j<=l.length/\(∀ a (h:a<l.length),a<i->QT l[a] t)/\∀ a (h:a<l.length),j<=a->¬ QT l[a] t) _ (λx=>(x.2-x.1).toNat) ⟨0,l.length,rfl,WT _,Wl _,λa _ h=>absurd h (WZ _),λa h k=>by omega⟩ ?_
  rintro x ⟨i,j,rfl,hij,hj,h1,h2⟩
  dsimp only
  &.ite (λhlt=>?_) λhlt=>.out (by rw [posK_of (i:=i) Oo h1 λh=>h2 i h Oo])
  rw [mid Oo]
  have hm:(i+j)/2<l.length:=by omega
  have e1:w64 ((((i+j)/2:Nat):Int)+1)=(((i+j)/2+1:Nat):Int):=Qd Oo
  rw [e1]
  &.atN hm ?_
  &.call (Qgl (hr _ hm) ht) ?_
  &.ite (λhc=>?_) λhc=>?_
  ·have hc:=(QfB (hr _ hm) ht).1 hc
   &.go ⟨(i+j)/2+1,j,rfl,Oo,hj,λa h ha=>?_,h2⟩ (by dsimp only;omega)
   by_cases h3:a=(i+j)/2
   ·subst h3;~hc
   ·~(hl.lt (show a<(i+j)/2 by omega) hm).trans hc
  ·have hc:¬ QT l[(i+j)/2] t:=λh=>hc ((QfB (hr _ hm) ht).2 h)
   &.go ⟨i,(i+j)/2,rfl,Oo,Oo,h1,λa h ha k=>?_⟩ (by dsimp only;omega)
   by_cases h3:a=(i+j)/2
   ·subst h3;~hc k
   ·~hc ((hl.lt (show (i+j)/2<a by omega) h).trans k)
 ·subst hb
  &.ite (λh=>?_) λh=>.some (by rw [Qdd (λk=>by ð⟨k,_⟩:=k;omega)])
  have h:X4 l t<l.length:=by omega
  &.atN h ?_
  &.call (Qgl (hr _ h) ht) ?_
  &.some (congrArg _ ?_)
  by_cases h0:cmpV l[X4 l t] t=0
  ·rw [J5 ⟨h,cmpV_zero.1 h0⟩];~decide_eq_true h0
  ·rw [Qdd λ⟨_,k⟩=>h0 (cmpV_zero.2 k)];~decide_eq_false h0
theorem less_c(a b:Int):Jf a b=some (decide (a<b)):=by
 unfold Jf XT
 simp
theorem bs_c{l:List Int}(hl:Asc l)(hlen:l.length<=4294967296)(t:Int):Qw l t=some (((Qbo l t:Nat):Int),bP (∃ h:Qbo l t<l.length,l[Qbo l t]=t)):=by
 &Gd.eq ?_
 unfold Qw
 &Gd.bind (P:=λb:Int=>b=(Qbo l t:Nat)) ?_ λb hb=>?_
 ·&Gd.loop (λx:Int×Int=>∃ i j:Nat,x=((i:Int),(j:Int))/\i<=j/\j<=l.length/\(∀ a (h:a<l.length),a<i->l[a]<t)/\∀ a (h:a<l.length),j<=a->¬ l[a]<t) _ (λx=>(x.2-x.1).toNat) ⟨0,l.length,rfl,WT _,Wl _,λa _ h=>absurd h (WZ _),λa h k=>by omega⟩ ?_
  rintro x ⟨i,j,rfl,hij,hj,h1,h2⟩
  dsimp only
  &.ite (λhlt=>?_) λhlt=>.out (by rw [posI_of (i:=i) Oo h1 λh=>h2 i h Oo])
  rw [mid Oo]
  have hm:(i+j)/2<l.length:=by omega
  have e1:w64 ((((i+j)/2:Nat):Int)+1)=(((i+j)/2+1:Nat):Int):=Qd Oo
  rw [e1]
  &.atN hm ?_
  &.call (less_c _ _) ?_
  &.ite (λhc=>?_) λhc=>?_
  ·have hc:=of_decide_eq_true hc
   &.go ⟨(i+j)/2+1,j,rfl,Oo,hj,λa h ha=>?_,h2⟩ (by dsimp only;omega)
   by_cases h3:a=(i+j)/2
   ·subst h3;~hc
   ·have:=hl.lt (show a<(i+j)/2 by omega) hm;omega
  ·have hc:¬ l[(i+j)/2]<t:=λh=>hc (decide_eq_true h)
   &.go ⟨i,(i+j)/2,rfl,Oo,Oo,h1,λa h ha k=>?_⟩ (by dsimp only;omega)
   by_cases h3:a=(i+j)/2
   ·subst h3;~hc k
   ·have:=hl.lt (show (i+j)/2<a by omega) h;omega
 ·subst hb
  &.ite (λh=>?_) λh=>.some (by rw [Qdd (λk=>by ð⟨k,_⟩:=k;omega)])
  have h:Qbo l t<l.length:=by omega
  &.atN h ?_
  &.ite (λh0=>.some (by rw [J5 ⟨h,h0⟩])) λh0=>?_
  &.call (show Q7 _=some false by unfold Q7;simp) ?_
  &.neg Od ?_
  ~.some (by rw [Qdd λ⟨_,k⟩=>h0 k])
theorem rcopy_c(l:List Qe)(hl:l.length<=1000000)(hs:∀ x∈l,x.slots.length<=4294967296):ZZ l=some l:=by
 &Gd.eq ?_
 unfold ZZ
 &Gd.bind (P:=λb=>b=l) ?_ λb hb=>.some hb
 &Gd.loop (λx:List Qe×Int=>∃ k:Nat,x=(l.take k,(k:Int))/\k<=l.length) _ (λx=>l.length-x.2.toNat) ⟨0,rfl,WT _⟩ ?_
 rintro x ⟨k,rfl,hk⟩
 dsimp only
 &.ite (λhlt=>?_) λhlt=>.out (WF Oo)
 have hlt:k<l.length:=by omega
 have h1:=hs _ (Wc hlt)
 &.atN hlt ?_
 &.pos ⟨Oo,Oo⟩ ?_
 rw [Wi,WK]
 &.pos ⟨Oo,Oo⟩ ?_
 have e1:w64 ((k:Int)+1)=((k+1:Nat):Int):=Qd Oo
 rw [e1]
 ~.go ⟨k+1,by rw [V9 hlt],hlt⟩ (by dsimp only;omega)
theorem clone_c(l:List Qe)(hl:l.length<=1000000)(hs:∀ x∈l,x.slots.length<=4294967296):Qax l=some l:=rcopy_c l hl hs
noncomputable def Qc6(l:List Int)(s:Int):List Int:=open Classical in if ∃ h:Qbo l s<l.length,l[Qbo l s]=s then l else l.insertIdx (Qbo l s) s
noncomputable def putK(l:List Qe)(f t s:Int):List Qe:=open Classical in if h:∃ h:X4 l ⟨f,t,[]⟩ < l.length,l[X4 l ⟨f,t,[]⟩].frm=f/\l[X4 l ⟨f,t,[]⟩].to=t
 then l.set (X4 l ⟨f,t,[]⟩) ⟨f,t,Qc6 (l[X4 l ⟨f,t,[]⟩]'h.1).slots s⟩ else l.insertIdx (X4 l ⟨f,t,[]⟩) ⟨f,t,[s]⟩
theorem ins_eq{α:Type}(l:List α)(i:Nat)(x:α):l.insertIdx i x=if i<=l.length then l.take i++[x]++l.drop i else l:=by
 by_cases h:i<=l.length
 ·rw [if_pos h]
  induction l generalizing i with
  | nil =>
    obtain rfl:i=0:=by simpa using h
    rfl
  | cons a l ih =>
   cases i with
   | zero=>rfl
   | succ i=>rw [List.insertIdx_succ_cons,ih i (by simpa using h)];rfl
 ·rw [if_neg h,List.insertIdx_of_length_lt Oo]
theorem rset_eta{x:Qe}{f t:Int}(h6:x.frm=f)(h7:x.to=t):(⟨f,t,x.slots⟩:Qe)=x:=by subst h6 h7;rfl
theorem mk_eq{a b f t:Int}{y:List Int}(h:a=f)(k:b=t):Qe.mk a b y=⟨f,t,y⟩:=by rw [h,k]
theorem insert_c{l:List Qe}(hlen:l.length<=100000)(hs:∀ x∈l,x.slots.length<=100000)(f t s:Int) :
  XE l f t s=some (open Classical in if Qo l/\(0<=f/\f<64)/\(0<=t/\t<64)/\0<=s then (putK l f t s,0) else ([],1)):=by
 &Gd.eq ?_
 unfold XE
 &.call (sets_c l Oo λx hx=>by have:=hs x hx;omega) ?_
 &.ite (λh1=>?_) λh1=>.some (by rw [if_neg λh=>h1 (J5 h.1)])
 have hok:=QE.1 h1
 &.call (in_c _) ?_
 &.ite (λh2=>?_) λh2=>.some (by rw [if_neg λh=>h2 (J5 h.2.1)])
 have hf:=QE.1 h2
 &.call (in_c _) ?_
 &.ite (λh3=>?_) λh3=>.some (by rw [if_neg λh=>h3 (J5 h.2.2.1)])
 have ht:=QE.1 h3
 &.ite (λh4=>.some (by rw [if_neg λh=>by omega])) λh4=>?_
 rw [if_pos ⟨hok,hf,ht,Oo⟩]
 &.call (clone_c l Oo λx hx=>by have:=hs x hx;omega) ?_
 &.call (a:=(((X4 l ⟨f,t,[]⟩:Nat):Int),bP (∃ h:X4 l ⟨f,t,[]⟩ < l.length,l[X4 l ⟨f,t,[]⟩].frm=f/\l[X4 l ⟨f,t,[]⟩].to=t))) (by
  unfold Z3
  rw [find_c hok Oo (t:=⟨f,t,[]⟩) ⟨hf.1,hf.2,ht.1,ht.2⟩]
  rfl) ?_
 dsimp only
 have hpl:=Qeo l ⟨f,t,[]⟩
 unfold putK
 &.ite (λh5=>?_) λh5=>?_
 ·have h5:=QE.1 h5
  rw [dif_pos h5]
  ð⟨hil,h6,h7⟩:=h5
  have hso:=hok.1 _ (Wc hil)
  have hsl:=hs _ (Wc hil)
  &.atN hil ?_
  &.call (bs_c hso.2.2.2.2 Oo s) ?_
  dsimp only
  unfold Qc6
  &.ite (λh8=>?_) λh8=>?_
  ·rw [if_pos (QE.1 h8)]
   &.some (congrArg (λx=>(x,(0:Int))) ?_)
   rw [rset_eta h6 h7,YW]
  ·rw [if_neg λh=>h8 (J5 h)]
   have hp:=QfT l[X4 l ⟨f,t,[]⟩].slots s
   &.call (a:=l[X4 l ⟨f,t,[]⟩].slots.insertIdx (Qbo l[X4 l ⟨f,t,[]⟩].slots s) s) (by
    unfold J9 insF
    dsimp only
    rw [if_pos ⟨Oo,Oo,Oo⟩,Wd]) ?_
   rw [Wd]
   ~.some (congrArg (λx=>(l.set _ x,(0:Int))) (mk_eq h6 h7))
 ·rw [dif_neg λh=>h5 (J5 h)]
  &.call (a:=l.insertIdx (X4 l ⟨f,t,[]⟩) ⟨f,t,[s]⟩) (by
    unfold insF
    dsimp only
    rw [if_pos ⟨Oo,Oo,Oo⟩,Wd]) ?_
  ~.some rfl
theorem with_c{l:List Int}(hl:Asc l)(hlen:l.length<=100000)(s:Int):Js l s=some (Qc6 l s):=by
  &Gd.eq ?_
  unfold Js
  &Gd.bind (P:=λb:Int=>b=(Qbo l s:Nat)) ?_ λb hb=>?_
  · &Gd.loop (λx:Int=>∃ i:Nat,x=i/\i<=l.length/\∀ a (h:a<l.length),a<i->l[a]<s) _ (λx=>l.length-x.toNat) ⟨0,rfl,WT _,λa _ h=>absurd h (WZ _)⟩ ?_
    rintro x ⟨i,rfl,hi,h1⟩
    &.ite (λhlt=>?_) λhlt=>.out (by rw [posI_of hi h1 λh=>by omega])
    have hlt:i<l.length:=by omega
    have e1:w64 ((i:Int)+1)=((i+1:Nat):Int):=Qd Oo
    &.atN hlt ?_
    rw [e1]
    &.ite (λhc=>?_) λhc=>.out (by rw [posI_of hi h1 λ_=>hc])
    &.go ⟨i+1,rfl,hlt,λa h ha=>?_⟩ Oo
    by_cases h3:a=i
    · subst h3;~hc
    · ~h1 a h Oo
  · subst hb
    have hp:=QfT l s
    unfold Qc6
    have h2:(l.take (Qbo l s)).length=Qbo l s:=by rw [Wi];omega
    have fin:∀ {G:List Int->Prop},G (l.insertIdx (Qbo l s) s)->Gd G (if (0:Int)<=0/\(0:Int)<=(Qbo l s:Nat)/\((Qbo l s:Nat):Int)<=l.length then
       if (((l.take (Int.toNat (Qbo l s:Nat))).drop (Int.toNat 0)).length:Int)*8<=140737488355328/\(((l.take (Int.toNat (Qbo l s:Nat))).drop (Int.toNat 0)).length:Int)<=9223372036854775807 then
       if ((((l.take (Int.toNat (Qbo l s:Nat))).drop (Int.toNat 0)).length:Int)+[s].length)*8<=140737488355328/\(((l.take (Int.toNat (Qbo l s:Nat))).drop (Int.toNat 0)).length:Int)+[s].length<=9223372036854775807 then
       if (0:Int)<=(Qbo l s:Nat)/\((Qbo l s:Nat):Int)<=(l.length:Int)/\(l.length:Int)<=l.length then
       if (((((l.take (Int.toNat (Qbo l s:Nat))).drop (Int.toNat 0))++[s]).length:Int)+((l.take (Int.toNat (l.length:Int))).drop (Int.toNat (Qbo l s:Nat))).length)*8<=140737488355328/\((((l.take (Int.toNat (Qbo l s:Nat))).drop (Int.toNat 0))++[s]).length:Int)+((l.take (Int.toNat (l.length:Int))).drop (Int.toNat (Qbo l s:Nat))).length<=9223372036854775807 then
       some ((((l.take (Int.toNat (Qbo l s:Nat))).drop (Int.toNat 0))++[s])++((l.take (Int.toNat (l.length:Int))).drop (Int.toNat (Qbo l s:Nat))))
       else none else none else none else none else none):=λhG=>by
      rw [Wd,show (0:Int).toNat=0 from rfl,UE,Wd,WR,We,Ww,h2]
      simp only [WX,VH]
      &.pos ⟨Oo,Oo,Oo⟩ (.pos ⟨Oo,Oo⟩ (.pos ⟨Oo,Oo⟩ (.pos ⟨Oo,Oo,Oo⟩ (.pos ⟨Oo,Oo⟩ (.some ?_)))))
      have:=ins_eq l (Qbo l s) s
      rw [if_pos hp] at this
      rw [<- this]
      ~hG
    &.ite (λh=>?_) λh=>?_
    · have h:Qbo l s<l.length:=by omega
      &.atN h ?_
      &.ite (λh0=>.some (by rw [if_pos ⟨h,h0⟩])) λh0=>?_
      rw [if_neg λ⟨_,k⟩=>h0 k]
      ~fin rfl
    · rw [if_neg λ⟨k,_⟩=>h Oo]
      ~fin rfl
theorem put_c{l:List Qe}(hl:Qo l)(hlen:l.length<=100000)(hs:∀ x∈l,x.slots.length<=100000)(f t s:Int):Qac l f t s=some (putK l f t s):=by
  &Gd.eq ?_
  unfold Qac
  &Gd.bind (P:=λb:Int=>b=(X4 l ⟨f,t,[]⟩:Nat)) ?_ λb hb=>?_
  · &Gd.loop (λx:Int=>∃ i:Nat,x=i/\i<=l.length/\∀ a (h:a<l.length),a<i->QT l[a] ⟨f,t,[]⟩) _ (λx=>l.length-x.toNat) ⟨0,rfl,WT _,λa _ h=>absurd h (WZ _)⟩ ?_
    rintro x ⟨i,rfl,hi,h1⟩
    &.ite (λhlt=>?_) λhlt=>.out (by rw [posK_of hi h1 λh=>by omega])
    have hlt:i<l.length:=by omega
    have e1:w64 ((i:Int)+1)=((i+1:Nat):Int):=Qd Oo
    &.atN hlt ?_
    &.call (before_c _ _) ?_
    rw [e1]
    &.ite (λhc=>?_) λhc=>.out (by rw [posK_of hi h1 λ_ k=>hc (J5 k)])
    &.go ⟨i+1,rfl,hlt,λa h ha=>?_⟩ Oo
    by_cases h3:a=i
    · subst h3;~QE.1 hc
    · ~h1 a h Oo
  · subst hb
    &.call (rcopy_c l Oo λx hx=>by have:=hs x hx;omega) ?_
    have hp:=Qeo l ⟨f,t,[]⟩
    have h2:(l.take (X4 l ⟨f,t,[]⟩)).length=X4 l ⟨f,t,[]⟩:=by rw [Wi];omega
    have fin:∀ {G:List Qe->Prop},G (l.insertIdx (X4 l ⟨f,t,[]⟩) ⟨f,t,[s]⟩)->Gd G (if (0:Int)<=(X4 l ⟨f,t,[]⟩:Nat)/\((X4 l ⟨f,t,[]⟩:Nat):Int)<=l.length then
       if (((l.take (Int.toNat (l.length:Int))).drop (Int.toNat (X4 l ⟨f,t,[]⟩:Nat))).length:Int)*40<=140737488355328/\(((l.take (Int.toNat (l.length:Int))).drop (Int.toNat (X4 l ⟨f,t,[]⟩:Nat))).length:Int)<=9223372036854775807 then
       if (0:Int)<=(X4 l ⟨f,t,[]⟩:Nat)/\((X4 l ⟨f,t,[]⟩:Nat):Int)<=l.length then
       if (((l.take (Int.toNat (X4 l ⟨f,t,[]⟩:Nat))).length:Int)+[Qe.mk f t [s]].length)*40<=140737488355328/\((l.take (Int.toNat (X4 l ⟨f,t,[]⟩:Nat))).length:Int)+[Qe.mk f t [s]].length<=9223372036854775807 then
       if ((((l.take (Int.toNat (X4 l ⟨f,t,[]⟩:Nat)))++[Qe.mk f t [s]]).length:Int)+((l.take (Int.toNat (l.length:Int))).drop (Int.toNat (X4 l ⟨f,t,[]⟩:Nat))).length)*40<=140737488355328/\(((l.take (Int.toNat (X4 l ⟨f,t,[]⟩:Nat)))++[Qe.mk f t [s]]).length:Int)+((l.take (Int.toNat (l.length:Int))).drop (Int.toNat (X4 l ⟨f,t,[]⟩:Nat))).length<=9223372036854775807 then
       some (((l.take (Int.toNat (X4 l ⟨f,t,[]⟩:Nat)))++[Qe.mk f t [s]])++((l.take (Int.toNat (l.length:Int))).drop (Int.toNat (X4 l ⟨f,t,[]⟩:Nat))))
       else none else none else none else none else none):=λhG=>by
      rw [Wd,Wd,WR,We,Ww,h2]
      simp only [WX,VH]
      &.pos ⟨Oo,Oo⟩ (.pos ⟨Oo,Oo⟩ (.pos ⟨Oo,Oo⟩ (.pos ⟨Oo,Oo⟩ (.pos ⟨Oo,Oo⟩ (.some ?_)))))
      have:=ins_eq l (X4 l ⟨f,t,[]⟩) ⟨f,t,[s]⟩
      rw [if_pos hp] at this
      rw [<- this]
      ~hG
    unfold putK
    &.ite (λh=>?_) λh=>?_
    · have h:X4 l ⟨f,t,[]⟩ < l.length:=by omega
      have hnot:¬ QT l[X4 l ⟨f,t,[]⟩] ⟨f,t,[]⟩:=λk=>by
        have:=Yq (p:=λx=>!bP (QT x ⟨f,t,[]⟩)) (xs:=l) (w:=h)
        simp only [Vy] at this
        have e:bP (QT l[X4 l ⟨f,t,[]⟩] ⟨f,t,[]⟩)=false:=this
        rw [J5 k] at e
        cases e
      &.atN h ?_
      &.call (before_c _ _) ?_
      &.ite (λh0=>?_) λh0=>?_
      · have h0:=QE.1 h0
        rw [dif_neg λ⟨_,k1,k2⟩=>by unfold QT at h0;dsimp only at h0;omega]
        ~fin rfl
      · have h0:¬ QT ⟨f,t,[]⟩ l[X4 l ⟨f,t,[]⟩]:=λk=>h0 (J5 k)
        have h6:l[X4 l ⟨f,t,[]⟩].frm=f/\l[X4 l ⟨f,t,[]⟩].to=t:=by unfold QT at h0 hnot;dsimp only at h0 hnot;omega
        rw [dif_pos ⟨h,h6⟩]
        &.call (with_c (hl.1 _ (Wc h)).2.2.2.2 (hs _ (Wc h)) s) ?_
        &.atN h ?_
        rw [Wd]
        ~.some (congrArg (λx=>l.set _ x) (mk_eq h6.1 h6.2))
    · rw [dif_neg λ⟨k,_⟩=>h Oo]
      ~fin rfl
theorem same_ints_c(l:List Int)(h:l.length<=4294967296):Xd l l=some true:=by
 &Gd.eq ?_
 unfold Xd
 &.pos rfl ?_
 &Gd.bndR (P:=λz=>z = .inl ()) ?_ (λ_ _=>.some rfl) (λr h=>by cases h)
 &Gd.loop (λx:Int=>∃ k:Nat,x=k/\k<=l.length) _ (λx=>l.length-x.toNat) ⟨0,rfl,WT _⟩ ?_
 rintro x ⟨k,rfl,hk⟩
 &.ite (λhlt=>?_) λhlt=>.out rfl
 have hlt:k<l.length:=by omega
 have e1:w64 ((k:Int)+1)=((k+1:Nat):Int):=Qd Oo
 rw [e1]
 ~.atN hlt (.atN hlt (.pos rfl (.go ⟨k+1,rfl,hlt⟩ Oo)))
theorem shr_k{s:Sp}(hs:Qco s.sh){a:Int}(n:Nat)(ha:a=n):QbO .i64 a (wu s.sh)=((n/szS s:Nat):Int):=by
 ð⟨g1,g2,g3,g4,g5⟩:=Jm hs
 subst ha
 rw [Xv Oo]
 unfold QbO
 rw [W7 (show s.sh.toNat<=IntKind.i64.bits from (by show _<=64;omega)),Ur _ (by rw [g5];omega),g5]
 ~(UF _ _).symm
def X7(s:Sp)(a:Int):Nat:=a.toNat/szS s
theorem Qet{s:Sp}(hs:ZL s){a:Int}(h0:0<=a)(h:a<s.ws.length):X7 s a<s.fs.length:=by
 ð⟨g1,g2,g3,g4,g5⟩:=Jm hs.shp.sh
 unfold X7
 have:=hs.shp.wl
 ~(VP Oo).2 Oo
def QaL(s:Sp)(p w:Int):Prop:=(¬ w=0/\w<=s.ws.length/\0<=p/\p<s.ws.length)/\∃ (h1:X7 s p<s.fs.length) (h2:X7 s (w-1)<s.fs.length),¬ s.fs[X7 s p].ow = -1/\¬ s.fs[X7 s (w-1)].ow = -1/\s.fs[X7 s (w-1)].st<s.fs[X7 s p].st
theorem Z7{s:Sp}(hs:ZL s):s.ws.length<=16384:=by
 ð⟨g1,g2,g3,g4,g5⟩:=Jm hs.shp.sh
 have:=hs.shp.wl
 have h:s.fs.length*szS s<=64*256:=V1 hs.shp.hi g4
 omega
theorem rpair_c{s:Sp}(hs:ZL s){p w:Int}(hw:0<=w/\w<=18446744073709551615):XI s p w=some (open Classical in if ¬ w=0/\w<=s.ws.length/\0<=p/\p<s.ws.length then ((X7 s p:Int),(X7 s (w-1):Int),bP (QaL s p w)) else (0,0,false)):=by
 have hl:=Z7 hs
 &Gd.eq ?_
 unfold XI
 rw [Xv (n:=(s.ws.length:Int)) Oo]
 &.ite (λh=>.some (by rw [if_neg λk=>k.1 h])) λh1=>?_
 &.ite (λh=>.some (by rw [if_neg λk=>by omega])) λh2=>?_
 &.ite (λh=>.some (by rw [if_neg λk=>by omega])) λh3=>?_
 &.ite (λh=>.some (by rw [if_neg λk=>by omega])) λh4=>?_
 have h:¬ w=0/\w<=s.ws.length/\0<=p/\p<s.ws.length:=⟨h1,Oo,Oo,Oo⟩
 have g1:=Qet hs (a:=p) Oo Oo
 have g2:=Qet hs (a:=w-1) Oo Oo
 &.pos (wu_sh hs.shp.sh) ?_
 rw [if_pos h,Xv (n:=w-1) Oo,Qd (n:=w-1) Oo,shr_k hs.shp.sh p.toNat Oo,shr_k hs.shp.sh (w-1).toNat Oo]
 &.atN g1 (.atN g2 ?_)
 &.ite (λk=>.some (by rw [Qdd λ⟨_,_,_,q,_⟩=>q k];rfl)) λk1=>?_
 &.ite (λk=>.some (by rw [Qdd λ⟨_,_,_,_,q,_⟩=>q k];rfl)) λk2=>.some ?_
 &congrArg (λb=>((X7 s p:Int),(X7 s (w-1):Int),b)) ?_
 have:=(some_b (b:=decide (s.fs[X7 s (w-1)].st<s.fs[X7 s p].st)) (p:=QaL s p w) (by rw [decide_eq_true_iff];~⟨λk3=>⟨h,g1,g2,k1,k2,k3⟩,λ⟨_,_,_,_,_,q⟩=>q⟩))
 injection this
theorem frOf_in{s:Sp}(hs:ZL s){a:Int}(h0:0<=a)(h:a<s.ws.length):(0:Int)<=(X7 s a:Int)/\(X7 s a:Int)<64:=by
 have:=Qet hs h0 h
 have:=hs.shp.hi
 omega
theorem Qc4.z{s:Sp}(h:Qc4 s):0<=s.sh/\s.sh<=8/\8<=szS s/\szS s<=256/\(2:Int)^s.sh.toNat=(szS s:Int):=Jm h.sh
theorem Qc4.small{s:Sp}(h:Qc4 s):s.ws.length<=16384:=by
 rw [h.wl]
 ~V1 h.hi h.z.2.2.2.1
theorem QfD{s:Sp}(h:Qc4 s){a:Int}(h0:0<=a)(h1:a<s.ws.length):∃ F:Nat,a/szS s=F/\F<s.fs.length:=by
 ð⟨g1,g2,g3,g4,g5⟩:=h.z
 obtain ⟨n,rfl⟩:∃ n:Nat,a=n:=⟨a.toNat,Oo⟩
 &⟨n/szS s,by push_cast;rfl,?_⟩
 rw [h.wl] at h1
 ~Vt (by rw [VE];omega)
def adv(s:Sp)(f n:Int):Int×Int:=if 0<=itF s.fs (n/szS s).toNat f then (itF s.fs (n/szS s).toNat f*szS s+n%szS s,0) else (0,2)
theorem adv_lt{s:Sp}{f n:Int}(hf:0<=f)(h0:0<=n)(h1:n<szS s):adv s f n=(f*szS s+n,0):=by
 have e:(n/szS s).toNat=0:=by rw [YN h0 h1];rfl
 unfold adv
 rw [e]
 show (if 0<=f then (f*szS s+n%szS s,0) else (0,2))=_
 rw [if_pos hf,Int.emod_eq_of_lt h0 h1]
theorem adv_neg{s:Sp}{f n:Int}(hf:f = -1):adv s f n=(0,2):=by
 unfold adv
 rw [Xz _ hf]
 rfl
theorem adv_ge{s:Sp}{f n:Int}(hz:0<szS s)(h1:szS s<=n):adv s f n=adv s (nxF s.fs f) (n-szS s):=by
 have e1:n/szS s=(n-szS s)/szS s+1:=by
  have:n=(n-szS s)+1*szS s:=by omega
  rw [this,Int.add_mul_ediv_right _ _ Oo]
  congr 2
  omega
 have e2:(n-szS s)%szS s=n%szS s:=by rw [Int.sub_emod_right]
 have e3:0<=(n-szS s)/szS s:=YU Oo Oo
 unfold adv
 rw [e2,e1,show ((n-szS s)/szS s+1).toNat=((n-szS s)/szS s).toNat+1 by omega]
 rfl
def ownF(fs:List Fe)(f:Int):Int:=if h:0<=f/\f.toNat<fs.length then (fs[f.toNat]'h.2).ow else -1
theorem ownF_at{fs:List Fe}{i:Nat}(h:i<fs.length):ownF fs i=fs[i].ow:=by
 unfold ownF
 rw [dif_pos ⟨Oo,by simpa using h⟩]
 rfl
def GoR(s:Sp)(a k:Int):Int×Int:=if a<0\/s.ws.length<=a\/k<0 then (0,2) else if ownF s.fs (a/szS s) = -1 then (0,5) else adv s (a/szS s) (a%szS s+k)
theorem QeB{s:Sp}{a k:Int}(h:a<0\/s.ws.length<=a\/k<0):GoR s a k=(0,2):=if_pos h
theorem GoR_in{s:Sp}{a k:Int}(h0:0<=a)(h1:a<s.ws.length)(h2:0<=k):GoR s a k=if ownF s.fs (a/szS s) = -1 then (0,5) else adv s (a/szS s) (a%szS s+k):=if_neg Oo
theorem adv_end{s:Sp}(h:ZL s){F:Nat}(hF:F<s.fs.length){n:Int}(hn:(s.ws.length:Int)<n):adv s F n=(0,2):=by
 ð⟨g1,g2,g3,g4,g5⟩:=h.shp.z
 have hl:=h.shp.wl
 have e:s.fs.length<=(n/szS s).toNat:=by
  have h1:((s.fs.length:Nat):Int)<=n/szS s:=by
   rw [Int.le_ediv_iff_mul_le Oo]
   omega
  omega
 have hst:=h.ends.str
 have hnx:=Ze h.fm
 have h2:itF s.fs s.fs.length F = -1:=by
  apply Classical.byContradiction
  intro hne
  have hin:∀ j,j<=s.fs.length->0<=itF s.fs j F/\itF s.fs j F<s.fs.length:=by
   intro j hj
   have h1:=hnx.it j F Oo
   &⟨?_,h1.2⟩
   rcases UZ (itF s.fs j F) 0 with h2 | h2
   ·exfalso
    apply hne
    rw [show s.fs.length=j+(s.fs.length-j) by omega,JG]
    ~Xz _ Oo
   ·~h2
  have hnd:((List.range (s.fs.length+1)).map λj=>(itF s.fs j F).toNat).Nodup:=by
   rw [Vh,Vc]
   &Wy.2 λa b ha hb hab e=>?_
   simp only [WV] at ha hb
   simp only [UH] at e
   have h1:=hin a Oo
   have h2:=hin b Oo
   have e2:itF s.fs b F=itF s.fs a F:=by omega
   rw [show b=a+((b-a-1)+1) by omega,JG] at e2
   have h3:=hst (itF s.fs a F).toNat Oo (b-a-1) Oo
   apply h3
   rw [show (((itF s.fs a F).toNat:Nat):Int)=itF s.fs a F by omega]
   ~e2
  have:=QcX s.fs.length _ hnd λx hx=>by
   ð⟨j,hj,rfl⟩:=Wk.1 hx
   have:=hin j (by have:=Wz.1 hj;omega)
   omega
  rw [Wb,WV] at this
  omega
 unfold adv
 rw [show (n/szS s).toNat=s.fs.length+((n/szS s).toNat-s.fs.length) by omega,JG,h2,Xz _ rfl]
 rfl
theorem u64_wrap{n:Nat}(h:n<18446744073709551616):IntKind.u64.wrap (n:Int)=n:=IntWalk.u64_in _ Oo
theorem bits_nat{a b:Nat}(ha:a<18446744073709551616)(hb:b<18446744073709551616):bits BinOp.and IntKind.u64 a b=((a &&& b:Nat):Int)/\bits BinOp.or IntKind.u64 a b=((a ||| b:Nat):Int):=by
 have h1:a &&& b<2^64:=Nat.lt_of_le_of_lt Nat.and_le_left Oo
 have h2:a ||| b<2^64:=Nat.or_lt_two_pow Oo Oo
 constructor
 ·show IntKind.u64.wrap ((BitVec.ofInt 64 (a:Int) &&& BitVec.ofInt 64 (b:Int)).toNat:Int)=_
  rw [BitVec.ofInt_natCast,BitVec.ofInt_natCast,BitVec.toNat_and,BitVec.toNat_ofNat,BitVec.toNat_ofNat,VC Oo,VC Oo,u64_wrap Oo]
 ·show IntKind.u64.wrap ((BitVec.ofInt 64 (a:Int) ||| BitVec.ofInt 64 (b:Int)).toNat:Int)=_
  rw [BitVec.ofInt_natCast,BitVec.ofInt_natCast,BitVec.toNat_or,BitVec.toNat_ofNat,BitVec.toNat_ofNat,VC Oo,VC Oo,u64_wrap Oo]
theorem pow_le64{n:Nat}(h:n<=64):1<=(2:Nat)^n/\(2:Nat)^n<=18446744073709551616:=⟨Nat.pow_pos Od,Ux Od h⟩
theorem and_mask{a n:Nat}(ha:a<18446744073709551616)(hn:n<=64):bits BinOp.and IntKind.u64 a ((2^n-1:Nat):Int)=((a%2^n:Nat):Int):=by
 have:=pow_le64 hn
 rw [(bits_nat ha Oo).1,Ym]
theorem mask1{n:Nat}(hn:n<=64):IntKind.u64.wrap (18446744073709551615*2^n)=((18446744073709551616-2^n:Nat):Int):=by
 have h1:∀ n:Fin 65,IntKind.u64.wrap (18446744073709551615*2^n.val)=((18446744073709551616-2^n.val:Nat):Int):=by decide +kernel
 ~h1 ⟨n,Oo⟩
theorem mask2{n:Nat}(hn:n<=64):IntKind.u64.wrap (BitVec.ofInt IntKind.u64.bits (if IntKind.u64.signed then -1 else IntKind.u64.max) ^^^ BitVec.ofInt IntKind.u64.bits ((18446744073709551616-2^n:Nat):Int)).toNat=((2^n-1:Nat):Int):=by
 have h1:∀ n:Fin 65,IntKind.u64.wrap (BitVec.ofInt IntKind.u64.bits (if IntKind.u64.signed then -1 else IntKind.u64.max) ^^^ BitVec.ofInt IntKind.u64.bits ((18446744073709551616-2^n.val:Nat):Int)).toNat=((2^n.val-1:Nat):Int):=by decide +kernel
 ~h1 ⟨n,Oo⟩
def hdW(r d:Int):Int:=(1+r+d)*256+r*2
def Qd4(r d:Int):Prop:=0<=r/\r<=15/\0<=d/\d<=32
instance(r d:Int):Decidable (Qd4 r d):=by unfold Qd4;infer_instance
def Qd3(r d:Int):Int×Int:=if Qd4 r d then (hdW r d,0) else (0,13)
def IsHd(w r d:Int):Prop:=w=hdW r d/\Qd4 r d
structure Hd where
 r:Int
 d:Int
 a:Int
 mv:Bool
 e:Int
def JD(w:Int):Hd :=
 if w%2=1 then (if 16384<=w/2 then ⟨0,0,0,false,12⟩ else ⟨0,0,w/2,true,0⟩)
 else if w%256/2<=15/\1+w%256/2<=w/256/\w/256<=33+w%256/2 then ⟨w%256/2,w/256-1-w%256/2,0,false,0⟩ else ⟨0,0,0,false,12⟩
theorem DecR_hd{r d:Int}(h:Qd4 r d):JD (hdW r d)=⟨r,d,0,false,0⟩:=by
 unfold Qd4 at h
 unfold JD hdW
 have e1:((1+r+d)*256+r*2)%2=0:=by omega
 have e2:((1+r+d)*256+r*2)%256/2=r:=by omega
 have e3:((1+r+d)*256+r*2)/256=1+r+d:=by omega
 rw [if_neg Oo,e2,e3,if_pos Oo]
 congr 1
 omega
theorem DecR_ok{w:Int}(h0:0<=w)(h:(JD w).e=0)(hm:(JD w).mv=false):IsHd w (JD w).r (JD w).d:=by
 unfold JD at h hm ⊢
 by_cases h2:w%2=1
 ·rw [if_pos h2] at h hm
  by_cases h3:16384<=w/2
  ·rw [if_pos h3] at h;cases h
  ·rw [if_neg h3] at hm;cases hm
 ·rw [if_neg h2] at h hm ⊢
  by_cases h3:w%256/2<=15/\1+w%256/2<=w/256/\w/256<=33+w%256/2
  ·rw [if_pos h3]
   unfold IsHd hdW Qd4
   simp only []
   omega
  ·rw [if_neg h3] at h;cases h
def wAt(s:Sp)(a:Int):Int:=if h:0<=a/\a.toNat<s.ws.length then s.ws[a.toNat]'h.2 else 0
theorem wAt_in{s:Sp}{a:Int}(h0:0<=a)(h:a.toNat<s.ws.length):wAt s a=s.ws[a.toNat]:=dif_pos ⟨h0,h⟩
theorem QfH{s:Sp}(hW:SpW s)(a:Int):U64 (wAt s a):=by
 unfold wAt
 split
 ·~hW.1 _ (Wc _)
 ·~⟨Od,Od⟩
structure Lk where
 r:Int
 d:Int
 e:Int
def Qy(s:Sp)(a:Int):Lk :=
 if ¬ (GoR s a 0).2=0 then ⟨0,0,(GoR s a 0).2⟩
 else if ¬ (JD (wAt s a)).e=0\/(JD (wAt s a)).mv=true then ⟨0,0,12⟩
 else if ¬ (GoR s a ((JD (wAt s a)).r+(JD (wAt s a)).d)).2=0 then ⟨0,0,2⟩
 else ⟨(JD (wAt s a)).r,(JD (wAt s a)).d,0⟩
open Classical in
noncomputable def ShapeR (s:Sp) (a:Int):Lk:=if ZL s then Qy s a else ⟨0,0,1⟩
theorem ShapeR_t{s:Sp}{a:Int}(h:ZL s):ShapeR s a=Qy s a:=if_pos h
theorem GoR_e{s:Sp}{a k:Int}(h:(GoR s a k).2=0):0<=a/\a<s.ws.length/\0<=k/\¬ ownF s.fs (a/szS s) = -1/\GoR s a k=adv s (a/szS s) (a%szS s+k)/\0<=itF s.fs ((a%szS s+k)/szS s).toNat (a/szS s):=by
 unfold GoR at h ⊢
 by_cases h1:a<0\/s.ws.length<=a\/k<0
 ·rw [if_pos h1] at h;cases h
 ·rw [if_neg h1] at h ⊢
  by_cases h2:ownF s.fs (a/szS s) = -1
  ·rw [if_pos h2] at h;cases h
  ·rw [if_neg h2] at h ⊢
   &⟨Oo,Oo,Oo,h2,rfl,?_⟩
   unfold adv at h
   by_cases h3:0<=itF s.fs ((a%szS s+k)/szS s).toNat (a/szS s)
   ·~h3
   ·rw [if_neg h3] at h;cases h
theorem GoR_v{s:Sp}{a k:Int}(h:(GoR s a k).2=0):(GoR s a k).1=itF s.fs ((a%szS s+k)/szS s).toNat (a/szS s)*szS s+(a%szS s+k)%szS s:=by
 ð⟨h1,h2,h3,h4,h5,h6⟩:=GoR_e h
 rw [h5]
 unfold adv
 rw [if_pos h6]
theorem Qgr{s:Sp}(hs:Qc4 s)(hn:NxIn s.fs){a k:Int}(h:(GoR s a k).2=0):0<=(GoR s a k).1/\(GoR s a k).1<s.ws.length:=by
 ð⟨g1,g2,g3,g4,g5⟩:=hs.z
 ð⟨h1,h2,h3,h4,h5,h6⟩:=GoR_e h
 ð⟨F,hF,hFl⟩:=QfD hs h1 h2
 have h7:=hn.it ((a%szS s+k)/szS s).toNat (a/szS s) Oo
 have h8:0<=(a%szS s+k)%szS s:=V3 _ Oo
 have h9:(a%szS s+k)%szS s<szS s:=V4 _ Oo
 rw [GoR_v h]
 generalize itF s.fs ((a%szS s+k)/szS s).toNat (a/szS s)=g at *
 generalize (a%szS s+k)%szS s=m at *
 have h10:0<=g*szS s:=Yz h6 Oo
 have h11:(g+1)*szS s<=s.fs.length*szS s:=Ue Oo Oo
 have h12:(g+1)*szS s=g*szS s+szS s:=by rw [Int.add_mul,YE]
 rw [hs.wl]
 push_cast
 omega
theorem QfF{s:Sp}(hs:Qc4 s)(hn:NxIn s.fs){a j k:Int}(h:(GoR s a k).2=0)(h0:0<=j)(hj:j<=k):(GoR s a j).2=0:=by
 ð⟨g1,g2,g3,g4,g5⟩:=hs.z
 ð⟨h1,h2,h3,h4,h5,h6⟩:=GoR_e h
 have hm0:0<=a%szS s:=V3 _ Oo
 have e1:(a%szS s+j)/szS s<=(a%szS s+k)/szS s:=Int.ediv_le_ediv Oo Oo
 have e2:0<=(a%szS s+j)/szS s:=YU Oo Oo
 have h7:0<=itF s.fs ((a%szS s+j)/szS s).toNat (a/szS s):=by
  rcases UZ (itF s.fs ((a%szS s+j)/szS s).toNat (a/szS s)) 0 with h8 | h8
  ·exfalso
   ð⟨F,hF,hFl⟩:=QfD hs h1 h2
   have h9:=hn.it ((a%szS s+j)/szS s).toNat (a/szS s) Oo
   rw [show ((a%szS s+k)/szS s).toNat=((a%szS s+j)/szS s).toNat+(((a%szS s+k)/szS s).toNat-((a%szS s+j)/szS s).toNat) by omega,JG,Xz _ Oo] at h6
   omega
  ·~h8
 rw [GoR_in h1 h2 h0,if_neg h4]
 unfold adv
 rw [if_pos h7]
theorem LookR_ok{s:Sp}(hW:SpW s){a r d:Int}(h:Qy s a=⟨r,d,0⟩):(GoR s a 0).2=0/\JD (wAt s a)=⟨r,d,0,false,0⟩/\Qd4 r d/\wAt s a=hdW r d/\(GoR s a (r+d)).2=0:=by
 unfold Qy at h
 by_cases h1:(GoR s a 0).2=0
 ·rw [if_neg (by simp [h1])] at h
  by_cases h2:¬ (JD (wAt s a)).e=0\/(JD (wAt s a)).mv=true
  ·rw [if_pos h2] at h;cases h
  ·rw [if_neg h2] at h
   by_cases h3:(GoR s a ((JD (wAt s a)).r+(JD (wAt s a)).d)).2=0
   ·rw [if_neg (by simp [h3])] at h
    have e1:(JD (wAt s a)).e=0:=Classical.byContradiction λh=>h2 (.inl h)
    have e2:(JD (wAt s a)).mv=false:=by
     cases hm:(JD (wAt s a)).mv
     ·rfl
     ·~absurd (.inr hm) h2
    have h4:=DecR_ok (QfH hW a).1 e1 e2
    injection h with h5 h6
    rw [h5,h6] at h4 h3
    have h7:=DecR_hd h4.2
    rw [<- h4.1] at h7
    ~⟨h1,h7,h4.2,h4.1,h3⟩
   ·rw [if_pos h3] at h;cases h
 ·rw [if_pos h1] at h
  injection h with _ _ h
  ~absurd h h1
theorem LookR_mk{s:Sp}{a r d:Int}(h1:(GoR s a 0).2=0)(h2:wAt s a=hdW r d)(h3:Qd4 r d)(h4:(GoR s a (r+d)).2=0):Qy s a=⟨r,d,0⟩:=by
 unfold Qy
 rw [if_neg (by simp [h1]),h2,DecR_hd h3,if_neg Os,if_neg (by simp [h4])]
def FnR(l:Lk)(ref:Bool):Int:=if ref then l.r else l.d
def FbR(l:Lk)(ref:Bool):Int:=if ref then 1 else 1+l.r
def setS(s:Sp)(x w:Int):Sp:={ s with ws:=s.ws.set x.toNat w }
theorem setS_len(s:Sp)(x w:Int):(setS s x w).ws.length=s.ws.length:=Wv ..
theorem GoR_ws{sh:Int}{ws l:List Int}{fs:List Fe}{a k:Int}(h:l.length=ws.length):GoR ⟨sh,l,fs⟩ a k=GoR ⟨sh,ws,fs⟩ a k:=by
 unfold GoR adv szS
 simp only [h]
def clrL(s:Sp)(a:Int):Nat->List Int->List Int
 | 0,l=>l
 | n+1,l=>(clrL s a n l).set (GoR s a ((n+1:Nat):Int)).1.toNat 0
@[simp] theorem clrL_len(s:Sp)(a:Int)(l:List Int):∀ n,(clrL s a n l).length=l.length
 | 0=>rfl
 | n+1=>by unfold clrL;rw [Wv];~clrL_len s a l n
theorem end_len{s:Sp}(h:ZL s){F:Nat}(hF:F<s.fs.length):itF s.fs s.fs.length F = -1:=by
 have hst:=h.ends.str
 have hnx:=Ze h.fm
 apply Classical.byContradiction
 intro hne
 have hin:∀ j,j<=s.fs.length->0<=itF s.fs j F/\itF s.fs j F<s.fs.length:=by
  intro j hj
  have h1:=hnx.it j F Oo
  &⟨?_,h1.2⟩
  rcases UZ (itF s.fs j F) 0 with h2 | h2
  ·exfalso
   apply hne
   rw [show s.fs.length=j+(s.fs.length-j) by omega,JG]
   ~Xz _ Oo
  ·~h2
 have hnd:((List.range (s.fs.length+1)).map λj=>(itF s.fs j F).toNat).Nodup:=by
  rw [Vh,Vc]
  &Wy.2 λa b ha hb hab e=>?_
  simp only [WV] at ha hb
  simp only [UH] at e
  have h1:=hin a Oo
  have h2:=hin b Oo
  have e2:itF s.fs b F=itF s.fs a F:=by omega
  rw [show b=a+((b-a-1)+1) by omega,JG] at e2
  have h3:=hst (itF s.fs a F).toNat Oo (b-a-1) Oo
  apply h3
  rw [show (((itF s.fs a F).toNat:Nat):Int)=itF s.fs a F by omega]
  ~e2
 have:=QcX s.fs.length _ hnd λx hx=>by
  ð⟨j,hj,rfl⟩:=Wk.1 hx
  have:=hin j (by have:=Wz.1 hj;omega)
  omega
 rw [Wb,WV] at this
 omega
def MkE(s:Sp)(a r d:Int):Int:=if Qd4 r d then (GoR s a (r+d)).2 else 13
theorem mod_neg{v n:Int}(hn:1<=n)(h:-((-v)%n)<0):-((-v)%n)+n=v%n:=by
 have h1:=Int.mul_ediv_add_emod (-v) n
 have h2:=V3 (-v) (by omega:n≠0)
 have h3:=V4 (-v) (by omega:0<n)
 generalize (-v)%n=m at *
 generalize (-v)/n=p at *
 have h4:v=(n-m)+n*(-p-1):=by rw [Int.mul_sub,Int.mul_neg,Int.mul_one];omega
 rw [h4,Int.add_mul_emod_self_left,Int.emod_eq_of_lt Oo Oo]
 omega
theorem mod_zero{v n:Int}(hn:1<=n)(h:¬ -((-v)%n)<0):-((-v)%n)=v%n:=by
 have h2:=V3 (-v) (by omega:n≠0)
 have h3:(-v)%n=0:=by omega
 have h4:v%n=0:=Int.emod_eq_zero_of_dvd (Int.dvd_neg.1 (Int.dvd_of_emod_eq_zero h3))
 omega
def clN(s:Sp)(n:Int):Int:=if n<0\/1099511627776<n then 0 else (n+szS s-1)/szS s
abbrev feF:Fe:=⟨-1,-1,-1⟩
abbrev feZ:Fe:=⟨0,0,0⟩
def frsL(n j:Nat):List Fe:=(List.range n).map λi=>if i<j then feF else feZ
@[simp] theorem frsL_len(n j:Nat):(frsL n j).length=n:=by unfold frsL;simp
def newS(k:Int)(n:Nat):Sp:=⟨k,List.replicate (n*2^k.toNat) 0,List.replicate n feF⟩
theorem Qdt{s:Sp}(hs:Qco s.sh)(n:Int):0<=clN s n/\clN s n<=1099511627776:=by
 ð⟨g1,g2,g3,g4,g5⟩:=Jm hs
 unfold clN
 split
 ·omega
 ·rename_i h
  &⟨YU Oo Oo,?_⟩
  have h1:(n+szS s-1)/szS s<=n:=by
   rcases UZ n 1 with h2 | h2
   ·have:n=0:=by omega
    subst this
    rw [YN Oo Oo]
    omega
   ·&Int.le_of_lt_add_one (Int.ediv_lt_of_lt_mul Oo ?_)
    have h3:n*1<=n*szS s:=Int.mul_le_mul_of_nonneg_left Oo Oo
    rw [Int.add_mul,YE]
    omega
  omega
def itL(s:Sp)(F:Int)(m:Nat):List Int:=(List.range m).map λj=>itF s.fs j F
@[simp] theorem itL_len(s:Sp)(F:Int)(m:Nat):(itL s F m).length=m:=by unfold itL;simp
theorem chain_len{s:Sp}(h:ZL s){F:Int}(h0:0<=F)(hF:F<s.fs.length):∃ m:Nat,1<=m/\m<=s.fs.length/\itF s.fs m F = -1/\∀ j,j<m->0<=itF s.fs j F/\itF s.fs j F<s.fs.length:=by
 have hnx:=Ze h.fm
 have hend:itF s.fs s.fs.length F = -1:=by
  have:=end_len h (F:=F.toNat) Oo
  rwa [Vj h0] at this
 have key:∀ n:Nat,itF s.fs n F = -1->∃ m:Nat,m<=n/\itF s.fs m F = -1/\∀ j,j<m->¬ itF s.fs j F = -1:=by
  intro n
  induction n with
  | zero=>intro hn;~⟨0,Wl _,hn,λj hj=>by omega⟩
  | succ n ih =>
   intro hn
   by_cases hp:itF s.fs n F = -1
   ·ð⟨m,h1,h2⟩:=ih hp;~⟨m,Oo,h2⟩
   ·&⟨n+1,Wl _,hn,λj hj e=>?_⟩
    rcases VG.1 hj with h3 | h3
    ·apply hp
     rw [show n=j+(n-j) by omega,JG]
     ~Xz _ e
    ·subst h3;~hp e
 ð⟨m,h1,h2,h3⟩:=key _ hend
 &⟨m,?_,h1,h2,λj hj=>?_⟩
 ·rcases Ud m with h4 | h4
  ·subst h4
   have:F = -1:=h2
   omega
  ·~h4
 ·have h5:=hnx.it j F Oo
  have h6:=h3 j hj
  omega
def cnO(fs:List Fe)(q:Int)(k:Nat):Nat:=(fs.take k).countP λf=>decide (f.ow=q)
theorem cnO_t{fs:List Fe}{q:Int}{k:Nat}(hk:k<fs.length)(h:fs[k].ow=q):cnO fs q (k+1)=cnO fs q k+1:=by
 unfold cnO
 rw [V9 hk,YA,YY]
 simp [h]
theorem cnO_f{fs:List Fe}{q:Int}{k:Nat}(hk:k<fs.length)(h:¬ fs[k].ow=q):cnO fs q (k+1)=cnO fs q k:=by
 unfold cnO
 rw [V9 hk,YA,YY]
 simp [h]
theorem cnO_le(fs:List Fe)(q:Int)(k:Nat):cnO fs q k<=k:=by
 unfold cnO
 ~Ug (YZ ..) (by rw [Wi];omega)
structure FitC(s:Sp)(q b f l n:Int)(m:Nat):Prop where
 lo:0<=f
 hi:f.toNat<s.fs.length
 ow:(s.fs[f.toNat]'hi).ow=q
 st:(s.fs[f.toNat]'hi).st=b*4294967296+q
 len:(m:Int)=clN s n
 cnt:m=cnO s.fs q s.fs.length
 last:itF s.fs (m-1) f=l
def IsLen(s:Sp)(f:Int)(m:Nat):Prop:=1<=m/\m<=s.fs.length/\itF s.fs m f = -1/\∀ j,j<m->0<=itF s.fs j f/\itF s.fs j f<s.fs.length
def FitP(s:Sp)(q b f l n:Int):Prop:=(0<=q/\q<=4294967295)/\(0<=b/\b<4)/\(0<=n/\n<=s.ws.length)/\(n=0->f = -1/\l = -1)/\(n≠0->∃ m,IsLen s f m/\FitC s q b f l n m)
theorem IsLen.uniq{s:Sp}{f:Int}{m k:Nat}(h1:IsLen s f m)(h2:IsLen s f k):m=k:=by
 rcases UR m k with h | h | h
 ·have:=h2.2.2.2 m h;have:=h1.2.2.1;omega
 ·~h
 ·have:=h1.2.2.2 k h;have:=h2.2.2.1;omega
noncomputable def fldL(s:Sp)(a:Int)(n:Nat):List Int:=(List.range n).map λ(j:Nat)=>(GoR s a (1+(j:Int))).1
@[simp] theorem fldL_len(s:Sp)(a:Int)(n:Nat):(fldL s a n).length=n:=by unfold fldL;simp
theorem mod_c{v n:Int}(hv:I64 v)(hn:1<=n/\n<=9223372036854775807):QaQ v n=some (v%n):=by
 unfold I64 at hv
 have hm0:=V3 v (by omega:n≠0)
 have hm1:=V4 v (by omega:0<n)
 have hm2:=V3 (-v) (by omega:n≠0)
 have hm3:=V4 (-v) (by omega:0<n)
 &Gd.eq ?_
 unfold QaQ
 &.pos Oo ?_
 by_cases h0:0<=v
 ·rw [VT h0]
  ~.neg Oo (.some rfl)
 ·have e:Int.tmod v n = -((-v)%n):=by
   rw [<- VT (a:=-v) Oo,Int.neg_tmod,Int.neg_neg]
  rw [e]
  &.ite (λh=>.some ?_) λh=>.some (mod_zero hn.1 h)
  have h2:=mod_neg hn.1 h
  rw [Qd Oo,h2]
theorem sh_1{s:Sp}(hs:Qco s.sh):Qa9 .i64 1 (wu s.sh)=(szS s:Int):=by
 have:=shl_k hs (a:=1) 1 rfl Oo
 rw [UX] at this
 ~this
theorem sh_a{s:Sp}(hs:Qco s.sh){a:Int}(h0:0<=a)(h1:a<=9223372036854775807):bits BinOp.and IntKind.i64 a ((szS s:Int)-1)=a%(szS s:Int):=by
 ð⟨e,z,he,h1',h2,h3,h4,h5,h6,h7⟩:=sh_get hs
 rw [h6]
 ~and_mod h0 h1 h2 h7
theorem go_c{s:Sp}(hs:Qc4 s)(hn:NxIn s.fs){a k:Int}(ha:I64 a)(hk:I64 k):QM s a k=some (GoR s a k):=by
 ð⟨g1,g2,g3,g4,g5⟩:=hs.z
 have hsm:=hs.small
 unfold I64 at ha hk
 &Gd.eq ?_
 unfold QM
 &.ite (λh=>.some (QeB (.inl h)).symm) λh1=>?_
 &.ite (λh=>.some (QeB (.inr (.inl h))).symm) λh2=>?_
 &.ite (λh=>.some (QeB (.inr (.inr h))).symm) λh3=>?_
 &.pos (wu_sh hs.sh) ?_
 rw [GoR_in Oo Oo Oo]
 ð⟨F,hF,hFl⟩:=QfD hs (a:=a) Oo Oo
 have hm0:=V3 a (by omega:(szS s:Int)≠0)
 have hm1:=V4 a (by omega:(0:Int)<szS s)
 rw [shr_k hs.sh a.toNat Oo,sh_1 hs.sh,Qd (n:=(szS s:Int)-1) Oo,sh_a hs.sh Oo Oo,hF,show a.toNat/szS s=F by
  have:((a.toNat/szS s:Nat):Int)=a/szS s:=by rw [UF,Vj Oo]
  omega]
 &.atN hFl ?_
 rw [ownF_at hFl]
 &.ite (λh=>.some (by rw [if_pos h])) λh4=>?_
 rw [if_neg h4]
 &Gd.bndR (P:=λz=>(∃ n f o:Int,z = .inl (n,f,o)/\0<=f/\f<s.fs.length/\0<=o/\0<=n/\o+n<szS s/\adv s F (a%szS s+k)=adv s f (o+n))\/(z = .inr (0,2)/\adv s F (a%szS s+k)=(0,2))) ?_ (λz hP=>?_) (λr hP=>?_)
 ·&Gd.loop (λx:Int×Int×Int=>0<=x.2.1/\x.2.1<s.fs.length/\0<=x.2.2/\x.2.2<szS s/\0<=x.1/\x.1<=9223372036854775807/\adv s F (a%szS s+k)=adv s x.2.1 (x.2.2+x.1)) _ (λx=>x.1.toNat) ⟨by dsimp only;omega,by dsimp only;omega,hm0,hm1,by dsimp only;omega,by dsimp only;omega,rfl⟩ ?_
  rintro ⟨n,f,o⟩ ⟨i1,i2,i3,i4,i5,i6,i7⟩
  dsimp only at i1 i2 i3 i4 i5 i6 i7 ⊢
  rw [Qd (n:=(szS s:Int)-o) Oo]
  &.ite (λh5=>?_) λh5=>.out (.inl ⟨n,f,o,rfl,i1,i2,i3,i5,Oo,i7⟩)
  &.at i1 Oo ?_
  have hx:=hn f.toNat Oo
  have e1:=adv_ge (s:=s) (f:=f) (n:=o+n) Oo Oo
  rw [nxF_z i1 Oo] at e1
  &.ite (λh6=>.out (.inr ⟨rfl,?_⟩)) λh6=>?_
  ·rw [i7,e1];~adv_neg h6
  ·rw [Qd (n:=n-((szS s:Int)-o)) Oo]
   &.go ⟨by dsimp only;omega,by dsimp only;omega,by dsimp only;omega,by dsimp only;omega,by dsimp only;omega,by dsimp only;omega,?_⟩ (by dsimp only;omega)
   dsimp only
   rw [i7,e1]
   congr 1
   omega
 ·rcases hP with ⟨n,f,o,h,i1,i2,i3,i4,i5,i6⟩ | ⟨h,_⟩
  ·injection h with h
   subst h
   dsimp only
   rw [i6,adv_lt i1 Oo i5,shl_k hs.sh f.toNat Oo (by have:=hs.hi;omega)]
   have hfz:f.toNat*szS s<=64*256:=V1 (by have:=hs.hi;omega) g4
   have hfe:((f.toNat*szS s:Nat):Int)=f*szS s:=by push_cast;rw [Vj i1]
   rw [hfe]
   rw [Qd (n:=f*szS s+o) Oo,Qd (n:=f*szS s+o+n) Oo,Int.add_assoc]
   ~.some rfl
  ·cases h
 ·rcases hP with ⟨n,f,o,h,_⟩ | ⟨h,hP⟩
  ·cases h
  ·injection h with h
   rw [h,hP]
theorem frames_c{s:Sp}(hs:Qco s.sh){n:Int}(hn:I64 n):JB n s.sh=some (clN s n):=by
 ð⟨g1,g2,g3,g4,g5⟩:=Jm hs
 unfold I64 at hn
 &Gd.eq ?_
 unfold JB clN
 &.ite (λh=>.some (by rw [if_pos (.inl h)])) λh1=>?_
 &.ite (λh=>.some (by rw [if_pos (.inr h)])) λh2=>?_
 &.neg Oo (.neg Oo (.pos (wu_sh hs) (.some ?_)))
 rw [if_neg Oo,sh_1 hs,Qd (n:=n+szS s) Oo,Qd (n:=n+szS s-1) Oo,shr_k hs (n+szS s-1).toNat Oo,UF,Vj Oo]
theorem Qbz{s:Sp}(hs:Qco s.sh){i:Inc}(hi:I64 i.words):QN s i=some (clN s i.words):=by
 unfold QN
 rw [frames_c hs hi]
 rfl
theorem extra_c{s:Sp}(hs:Qco s.sh){i:Inc}{n:Int}(hi:I64 i.words)(h:I64 (i.words+n)):Z5 s i n=some (clN s (i.words+n)-clN s i.words):=by
 unfold Z5
 have c1:=Qdt hs (i.words+n)
 have c2:=Qdt hs i.words
 have h':=h
 unfold I64 at h'
 rw [Qd (n:=i.words+n) Oo,frames_c hs h,Qbz hs hi]
 simp only [WQ]
 rw [Qd Oo]
theorem live_c(r d:Int):XP r d=some (Qd3 r d):=by
 &Gd.eq ?_
 unfold XP Qd3
 &.ite (λh=>.some (by rw [if_neg λk=>by unfold Qd4 at k;omega])) λh1=>?_
 &.ite (λh=>.some (by rw [if_neg λk=>by unfold Qd4 at k;omega])) λh2=>?_
 &.ite (λh=>.some (by rw [if_neg λk=>by unfold Qd4 at k;omega])) λh3=>?_
 &.ite (λh=>.some (by rw [if_neg λk=>by unfold Qd4 at k;omega])) λh4=>.some ?_
 rw [if_pos ⟨Oo,Oo,Oo,Oo⟩,Qd (n:=1+r) Oo,Qd (n:=1+r+d) Oo,Qd (n:=(1+r+d)*256) Oo,Qd (n:=r*2) Oo,Qd (n:=(1+r+d)*256+r*2) Oo,Xv Oo]
 rfl
theorem clone_w{l:List Int}(h:l.length<=4294967296):JU l=some l:=by
 unfold JU
 rw [if_pos ⟨Oo,Oo⟩]
theorem copy_c{s:Sp}(h1:s.ws.length<=4294967296)(h2:s.fs.length<=4294967296):JA s=some s:=by
 &Gd.eq ?_
 unfold JA
 ~.call (clone_w h1) (.pos ⟨Oo,Oo⟩ (.some rfl))
theorem make_c{s:Sp}(hs:Qc4 s)(hn:NxIn s.fs){a r d:Int}(ha:I64 a):Jy s a r d=some (if MkE s a r d=0 then (0,clrL s a (r+d).toNat (s.ws.set a.toNat (hdW r d))) else (MkE s a r d,s.ws)):=by
 &Gd.eq ?_
 unfold Jy MkE
 &.call (live_c r d) ?_
 unfold Qd3
 by_cases hh:Qd4 r d
 ·rw [if_pos hh,if_pos hh]
  have hh2:=hh
  unfold Qd4 at hh2
  &.pos rfl ?_
  rw [Qd (n:=r+d) Oo]
  &.call (go_c hs hn ha (by unfold I64;omega)) ?_
  &.ite (λhg=>?_) λhg=>.some (by rw [if_neg hg])
  rw [if_pos hg]
  ð⟨a1,a2,_⟩:=GoR_e hg
  &.at a1 Oo ?_
  &Gd.bind (P:=λb=>b=clrL s a (r+d).toNat (s.ws.set a.toNat (hdW r d))) ?_ λb hb=>.some (by rw [hb])
  &Gd.loop (λx:List Int×Int=>∃ j:Nat,x=(clrL s a j (s.ws.set a.toNat (hdW r d)),((j+1:Nat):Int))/\j<=(r+d).toNat) _ (λx=>(r+d).toNat+1-x.2.toNat) ⟨0,rfl,WT _⟩ ?_
  rintro x ⟨j,rfl,hj⟩
  dsimp only
  &.ite (λhlt=>?_) λhlt=>.out (by rw [show j=(r+d).toNat by omega])
  have hgj:(GoR s a ((j+1:Nat):Int)).2=0:=QfF hs hn hg Oo Oo
  have hr:=Qgr hs hn hgj
  have hcl:(clrL s a j (s.ws.set a.toNat (hdW r d))).length=s.ws.length:=by simp
  &.call (go_c (s:=⟨s.sh,clrL s a j (s.ws.set a.toNat (hdW r d)),s.fs⟩) ⟨hs.sh,hs.lo,hs.hi,by rw [hcl];~hs.wl⟩ hn ha (by unfold I64;omega)) ?_
  rw [show GoR ⟨s.sh,clrL s a j (s.ws.set a.toNat (hdW r d)),s.fs⟩ a ((j+1:Nat):Int)=GoR s a ((j+1:Nat):Int) from GoR_ws (ws:=s.ws) hcl]
  &.at hr.1 (by rw [hcl];have:=hr.2;omega) ?_
  have e1:w64 (((j+1:Nat):Int)+1)=((j+1+1:Nat):Int):=Qd Oo
  rw [e1]
  ~.go ⟨j+1,rfl,Oo⟩ (by dsimp only;omega)
 ·rw [if_neg hh,if_neg hh]
  ~.neg Od (.some rfl)
theorem decode_c{w:Int}(hw:U64 w):Xn w=some ((JD w).r,(JD w).d,(JD w).a,(JD w).mv,(JD w).e):=by
 unfold U64 at hw
 have t1:Int.tmod w 2=w%2:=VT hw.1
 have t2:Int.tdiv w 2=w/2:=V8 hw.1
 have t3:Int.tmod w 256=w%256:=VT hw.1
 have t4:Int.tdiv w 256=w/256:=V8 hw.1
 have t5:Int.tdiv (w%256) 2=w%256/2:=V8 Oo
 &Gd.eq ?_
 unfold Xn JD
 rw [t1,t2,t3,t4,t5,Xv (n:=w/2) Oo,Xv (n:=w/256) Oo,Xv (n:=w%256/2) Oo,Qd (n:=w%256/2) Oo,Qd (n:=w/2) Oo,Qd (n:=w/256) Oo,Qd (n:=1+w%256/2) Oo,Qd (n:=w/256-1) Oo,Qd (n:=w/256-1-w%256/2) Oo]
 by_cases h1:w%2=1
 ·rw [if_pos h1,if_pos h1]
  by_cases h2:16384<=w/2
  ·rw [if_pos h2,if_pos h2];~.some rfl
  ·rw [if_neg h2,if_neg h2];~.some rfl
 ·rw [if_neg h1,if_neg h1]
  by_cases h:w%256/2<=15/\1+w%256/2<=w/256/\w/256<=33+w%256/2
  ·rw [if_pos h,if_neg Oo,if_neg Oo,if_neg Oo,if_neg Oo];~.some rfl
  ·rw [if_neg h]
   &.ite (λ_=>.some rfl) λh2=>?_
   &.ite (λ_=>.some rfl) λh3=>?_
   &.ite (λ_=>.some rfl) λh4=>?_
   &.ite (λ_=>.some rfl) λh5=>?_
   omega
theorem DecR_rng{w:Int}(hw:U64 w):0<=(JD w).r/\(JD w).r<=15/\0<=(JD w).d/\(JD w).d<=32/\0<=(JD w).a/\(JD w).a<16384:=by
 unfold U64 at hw
 unfold JD
 by_cases h1:w%2=1
 ·rw [if_pos h1]
  by_cases h2:16384<=w/2
  ·rw [if_pos h2];dsimp only;omega
  ·rw [if_neg h2];dsimp only;omega
 ·rw [if_neg h1]
  by_cases h:w%256/2<=15/\1+w%256/2<=w/256/\w/256<=33+w%256/2
  ·rw [if_pos h];dsimp only;omega
  ·rw [if_neg h];dsimp only;omega
def fwdW(b:Int):Int:=2*b+1
theorem DecR_fwd{b:Int}(h:0<=b/\b<16384):JD (fwdW b)=⟨0,0,b,true,0⟩:=by
 unfold JD fwdW
 rw [if_pos Oo,if_neg Oo]
 congr 1
 omega
theorem forward_c{b:Int}(h:0<=b/\b<16384):XQ b=some (fwdW b,0):=by
 unfold XQ
 rw [if_neg Oo,if_neg Oo,Qd (n:=2*b) Oo,Qd (n:=2*b+1) Oo,Xv Oo]
 rfl
theorem Jk{s:Sp}{a:Nat}{w:Int}(h:s.ws[a]?=some w):wAt s (a:Int)=w:=by
 have hl:a<s.ws.length:=by
  rcases Ws a s.ws.length with h' | h'
  ·~h'
  ·rw [Wg h'] at h;cases h
 rw [wAt_in Oo (by rw [Wd];~hl)]
 rw [Wa hl] at h
 simpa using h
theorem QdL{s:Sp}{a:Int}(h0:0<=a)(h:a.toNat<s.ws.length):wAt s a=s.ws[a.toNat]:=by
 obtain ⟨n,rfl⟩:∃ n:Nat,a=n:=⟨a.toNat,Oo⟩
 ~Jk (Wa h)
theorem look_c{s:Sp}(hs:Qc4 s)(hn:NxIn s.fs)(hW:SpW s){a:Int}(ha:I64 a):Zl s a=some ((Qy s a).r,(Qy s a).d,(Qy s a).e):=by
 &Gd.eq ?_
 unfold Zl Qy
 &.call (go_c hs hn ha (by unfold I64;omega)) ?_
 &.ite (λh1=>?_) λh1=>.some (by rw [if_pos h1])
 rw [if_neg (by simp [h1])]
 ð⟨a1,a2,_⟩:=GoR_e h1
 have hu:U64 (wAt s a):=QfH hW a
 &.at a1 Oo ?_
 rw [<- QdL a1 Oo]
 &.call (decode_c hu) ?_
 dsimp only
 &.ite (λh2=>?_) λh2=>.some (by rw [if_pos (.inl h2)])
 &.ite (λh3=>.some (by rw [if_pos (.inr h3)])) λh3=>?_
 rw [if_neg (by simp [h2,h3])]
 have hr:=DecR_rng hu
 rw [Qd (n:=(JD (wAt s a)).r+(JD (wAt s a)).d) Oo]
 &.call (go_c hs hn ha (by unfold I64;omega)) ?_
 &.ite (λh4=>.some (by rw [if_neg (by simp [h4])])) λh4=>.some (by rw [if_pos h4])
noncomputable def PlcR(s:Sp)(a i:Int)(ref:Bool):Int×Int:=if ¬ (Qy s a).e=0 then (0,(Qy s a).e) else if i<0\/FnR (Qy s a) ref<=i then (0,17) else ((GoR s a (FbR (Qy s a) ref+i)).1,0)
theorem Qfs{s:Sp}(hW:SpW s){a:Int}(h:(Qy s a).e=0):Qd4 (Qy s a).r (Qy s a).d/\(GoR s a ((Qy s a).r+(Qy s a).d)).2=0:=by
 ð⟨h1,h2,h3,h4,h5⟩:=LookR_ok hW (r:=(Qy s a).r) (d:=(Qy s a).d) (by cases hl:Qy s a with | mk r d e=>rw [hl] at h;dsimp only at h ⊢;rw [h])
 ~⟨h3,h5⟩
theorem place_c{s:Sp}(hs:Qc4 s)(hn:NxIn s.fs)(hW:SpW s){a i:Int}(ha:I64 a)(hi:I64 i)(ref:Bool):Z6 s a i ref=some (PlcR s a i ref):=by
 &Gd.eq ?_
 unfold Z6 PlcR
 &.call (look_c hs hn hW ha) ?_
 dsimp only
 &.ite (λhe=>?_) λhe=>.some (by rw [if_pos he])
 rw [if_neg (by simp [he])]
 ð⟨h1,h2⟩:=Qfs hW he
 unfold Qd4 at h1
 &.ite (λhr=>?_) λhr=>?_
 ·subst hr
  &.ite (λh=>.some (by rw [if_pos (.inl h)])) λh3=>?_
  &.ite (λh=>.some (by rw [if_pos (.inr h)])) λh4=>?_
  have h5:i<(Qy s a).r:=by omega
  rw [if_neg (show ¬ (i<0\/FnR (Qy s a) true<=i) from by show ¬ (i<0\/(Qy s a).r<=i);omega),Qd (n:=1+i) Oo]
  &.call (go_c hs hn ha (by unfold I64;omega)) (.some ?_)
  show ((GoR s a (1+i)).1,(GoR s a (1+i)).2)=((GoR s a (1+i)).1,0)
  rw [QfF hs hn h2 (j:=1+i) Oo Oo]
 ·have hr:ref=false:=by simpa using hr
  subst hr
  &.ite (λh=>.some (by rw [if_pos (.inl h)])) λh3=>?_
  &.ite (λh=>.some (by rw [if_pos (.inr h)])) λh4=>?_
  have h5:i<(Qy s a).d:=by omega
  rw [if_neg (show ¬ (i<0\/FnR (Qy s a) false<=i) from by show ¬ (i<0\/(Qy s a).d<=i);omega),Qd (n:=1+(Qy s a).r) Oo,Qd (n:=1+(Qy s a).r+i) Oo]
  &.call (go_c hs hn ha (by unfold I64;omega)) (.some ?_)
  show ((GoR s a (1+(Qy s a).r+i)).1,(GoR s a (1+(Qy s a).r+i)).2)=((GoR s a (1+(Qy s a).r+i)).1,0)
  rw [QfF hs hn h2 (j:=1+(Qy s a).r+i) Oo Oo]
noncomputable def Qb7(s:Sp)(a:Int):List Int×Int:=if (Qy s a).e=0 then (fldL s a (Qy s a).r.toNat,0) else ([],(Qy s a).e)
theorem fldL_succ(s:Sp)(a:Int)(n:Nat):fldL s a (n+1)=fldL s a n++[(GoR s a (1+(n:Int))).1]:=by unfold fldL;rw [Ua,WH];rfl
theorem fields_c{s:Sp}(hs:Qc4 s)(hn:NxIn s.fs)(hW:SpW s){a:Int}(ha:I64 a):QY s a=some (Qb7 s a):=by
 &Gd.eq ?_
 unfold QY Qb7
 &.call (look_c hs hn hW ha) ?_
 dsimp only
 &.ite (λhe=>?_) λhe=>.some (by rw [if_neg he])
 rw [if_pos he]
 ð⟨h1,h2⟩:=Qfs hW he
 unfold Qd4 at h1
 &Gd.bind (P:=λb=>b=fldL s a (Qy s a).r.toNat) ?_ λb hb=>.some (by rw [hb])
 &Gd.loop (λx:List Int×Int=>∃ j:Nat,x=(fldL s a j,(j:Int))/\j<=(Qy s a).r.toNat) _ (λx=>(Qy s a).r.toNat-x.2.toNat) ⟨0,rfl,WT _⟩ ?_
 rintro x ⟨j,rfl,hj⟩
 dsimp only
 &.ite (λhlt=>?_) λhlt=>.out (by rw [show j=(Qy s a).r.toNat by omega])
 rw [Qd (n:=1+(j:Int)) Oo,Qd (n:=(j:Int)+1) Oo]
 &.call (go_c hs hn ha (by unfold I64;omega)) (.pos (by rw [fldL_len,WK];omega) ?_)
 ~.go ⟨j+1,by rw [fldL_succ];rfl,Oo⟩ (by dsimp only;omega)
section
variable{α β σ τ:Type}
theorem Gd.for{Q:β->Prop}{B:σ->Option (LS σ β)}{b:σ->β}{π:σ->Int}{s0:σ}(n:Nat)(mk:τ->Int->σ)(I:Nat->τ->Prop)(t0:τ)(hs:s0=mk t0 0)(hπ:∀ t i,π (mk t i)=i)(hn:n<=9223372036854775806)(h0:I 0 t0)
  (hgo:∀ i,i<n->∀ t,I i t->Gd (λa=>(∃ t',a=LS.go (mk t' (w64 ((i:Int)+1)))/\I (i+1) t')\/(∃ o,a=LS.out o/\Q o)) (B (mk t i)))(hout:∀ t,I n t->Q (b (mk t n))) :
  Gd Q (Qh (λs=>if π s<(n:Int) then B s else .some (LS.out (b s))) s0):=by
 &Gd.loop (λx:σ=>∃ i:Nat,∃ t,x=mk t i/\i<=n/\I i t) _ (λx=>n-(π x).toNat) ⟨0,t0,hs,WT _,h0⟩ ?_
 rintro x ⟨i,t,rfl,hi,hI⟩
 &.ite (λhlt=>?_) λhlt=>.out ?_
 ·rw [hπ] at hlt
  ð⟨a,h1,h2⟩:=hgo i Oo t hI
  &⟨a,h1,?_⟩
  rcases h2 with ⟨t',rfl,h3⟩ | ⟨o,rfl,h3⟩
  ·have e1:w64 ((i:Int)+1)=((i+1:Nat):Int):=Qd Oo
   rw [e1]
   &⟨⟨i+1,t',rfl,Oo,h3⟩,?_⟩
   show n-(π (mk t' ((i+1:Nat):Int))).toNat<n-(π (mk t (i:Int))).toNat
   rw [hπ,hπ]
   omega
  ·~h3
 ·rw [hπ] at hlt
  obtain rfl:i=n:=by omega
  ~hout t hI
theorem X9{l:List α}{v:α}{k:Int}(h:l.length<=1000000)(hk:0<=k/\k<=1000):((l.length:Int)+[v].length)*k<=140737488355328/\(l.length:Int)+[v].length<=9223372036854775807:=by
 rw [WK]
 have:=Y7 (show (l.length:Int)+((1:Nat):Int)<=1000001 by omega) hk.2 hk.1 Oo
 omega
theorem appL_in{l v:List α}{k:Int}(h:l.length+v.length<=1000000)(hk:0<=k/\k<=1000):((l.length:Int)+v.length)*k<=140737488355328/\(l.length:Int)+v.length<=9223372036854775807:=by
 have:=Y7 (show (l.length:Int)+(v.length:Int)<=1000001 by omega) hk.2 hk.1 Oo
 omega
theorem len_in{l:List α}{k:Int}(h:l.length<=1000000)(hk:0<=k/\k<=1000):(l.length:Int)*k<=140737488355328/\(l.length:Int)<=9223372036854775807:=by
 have:=Y7 (show (l.length:Int)<=1000001 by omega) hk.2 hk.1 Oo
 omega
theorem QI{l:List α}{i:Nat}(h:i<l.length):l.take (i+1)=l.take i++[l[i]]:=by rw [List.take_add_one,Wa h];rfl
theorem Qeu{l:List α}{i:Nat}(h:i<l.length)(f:σ->α->σ)(t:σ):(l.take (i+1)).foldl f t=f ((l.take i).foldl f t) l[i]:=by rw [QI h,US];rfl
theorem Gd.fold{Q:β->Prop}{B:σ->Option (LS σ β)}{b:σ->β}{π:σ->Int}{s0:σ}(l:List α)(mk:τ->Int->σ)(f:τ->α->τ)(t0:τ)(I:Nat->τ->Prop)(hs:s0=mk t0 0)(hπ:∀ t i,π (mk t i)=i)(hn:l.length<=9223372036854775806)(h0:I 0 t0)
  (hgo:∀ i (h:i<l.length) t,I i t->I (i+1) (f t l[i])/\Gd (λa=>a=LS.go (mk (f t l[i]) (w64 ((i:Int)+1)))) (B (mk t i)))(hout:I l.length (l.foldl f t0)->Q (b (mk (l.foldl f t0) l.length))) :
  Gd Q (Qh (λs=>if π s<(l.length:Int) then B s else .some (.out (b s))) s0):=by
 &Gd.for l.length mk (λi t=>t=(l.take i).foldl f t0/\I i t) t0 hs hπ hn ⟨Os,h0⟩ (λi hi t ht=>?_) (λt ht=>?_)
 ·ð⟨h1,h2⟩:=hgo i hi t ht.2
  ~.of h2.eq (.inl ⟨_,rfl,by rw [Qeu hi,<- ht.1],h1⟩)
 ·ð⟨rfl,h2⟩:=ht
  rw [WR] at h2 ⊢
  ~hout h2
theorem Gd.find{Q:β->Prop}{B:Int->Option (LS Int β)}{b:Int->β}(l:List α)(p:α->Prop)(hn:l.length<=9223372036854775806)
  (hgo:∀ i (h:i<l.length),(∀ j (h:j<l.length),j<i->¬ p l[j])->Gd (λa=>(¬ p l[i]/\a=LS.go (w64 ((i:Int)+1)))\/(p l[i]/\∃ o,a=LS.out o/\Q o)) (B i))(hout:(∀ x∈l,¬ p x)->Q (b l.length)) :
  Gd Q (Qh (λs=>if s<(l.length:Int) then B s else .some (LS.out (b s))) 0):=by
 &Gd.for l.length (λ(_:Unit) i=>i) (λi _=>∀ j (h:j<l.length),j<i->¬ p l[j]) () rfl (λ_ _=>rfl) hn (λj _ h=>absurd h (WZ _)) (λi hi t ht=>?_) (λt ht=>?_)
 ·&(hgo i hi ht).mono λa ha=>?_
  rcases ha with ⟨h1,rfl⟩ | ⟨_,h2⟩
  ·~.inl ⟨(),rfl,λj h hj=>by
    by_cases e:j=i
    ·subst e;~h1
    ·~ht j h Oo⟩
  ·~.inr h2
 ·&hout λx hx=>?_
  ð⟨j,hj,rfl⟩:=WN.1 hx
  ~ht j hj hj
end
theorem QcA{α:Type}(p:α->Bool)(l:List α):∀ t:List α,l.foldl (λt x=>if p x=true then t++[x] else t) t=t++l.filter p:=by
 induction l with
 | nil=>intro t;simp
 | cons a l ih =>
  intro t
  by_cases h:p a=true
  ·simp [ih,h]
  ·simp [ih,h]
theorem rin_c(l:List Int)(v:Int)(hl:l.length<=9223372036854775806):Jt l v=some (decide (v∈l)):=by
 &Gd.eq ?_
 unfold Jt
 &Gd.bndR (P:=λz=>(z = .inl ()/\¬ v∈l)\/(z = .inr true/\v∈l)) ?_ (λ_ hP=>?_) (λr hP=>?_)
 ·&Gd.find l (λx=>x=v) hl (λi hi h=>?_) (λh=>.inl ⟨rfl,λhv=>h v hv rfl⟩)
  &.atN hi (.ite (λh=>.some (.inr ⟨h,_,rfl,.inr ⟨rfl,h▸Wc _⟩⟩)) λh=>.some (.inl ⟨h,rfl⟩))
 ·rcases hP with ⟨_,h⟩ | ⟨h,_⟩
  ·~.some (by rw [decide_eq_false h])
  ·cases h
 ·rcases hP with ⟨h,_⟩ | ⟨h,k⟩
  ·cases h
  ·injection h with h;rw [h,decide_eq_true k]
def Zv(r:Rts):List Nat:=(List.range r.used.length).filter λi=>r.used[i]? == some true
theorem live20_c(r:Rts)(h:r.used.length<=65536):ZX r=some ((Zv r).map λi=>((i+1:Nat):Int)):=by
 &Gd.eq ?_
 unfold ZX
 &Gd.bind (P:=λb=>b=(Zv r).map λi=>((i+1:Nat):Int)) ?_ λb hb=>.some hb
 &Gd.for r.used.length (λ(t:List Int) i=>(t,i)) (λi t=>t=((List.range i).filter λi=>r.used[i]? == some true).map λi=>((i+1:Nat):Int)) [] rfl (λ_ _=>rfl) Oo rfl (λi hi t ht=>?_) (λt ht=>ht)
 have hlt:t.length<=1000000:=by
  rw [ht,Wb]
  have:=W8 (λi=>r.used[i]? == some true) (List.range i)
  rw [WV] at this
  omega
 &.atN hi ?_
 have e1:w64 ((i:Int)+1)=((i+1:Nat):Int):=Qd Oo
 rw [Ua,VA,WH,<- ht]
 &.ite (λhu=>.pos (X9 hlt Oo) (.some (.inl ⟨_,rfl,?_⟩))) λhu=>.some (.inl ⟨_,rfl,?_⟩)
 ·dsimp only
  rw [e1]
  simp [Wa hi,hu]
 ·simp [Wa hi,hu]
def isC(fs:List Fe)(l:List Inc)(k:Nat):Bool:=match fs[k]? with | some f=>decide (f.ow∈l.map Inc.seq) | none=>false
def cfr(fs:List Fe)(l:List Inc):List Nat:=(List.range fs.length).filter (isC fs l)
theorem QeL{fs:List Fe}{l:List Inc}{k:Nat}(h:k<fs.length):isC fs l k=decide (fs[k].ow∈l.map Inc.seq):=by unfold isC;rw [Wa h]
theorem Qf7{fs:List Fe}{l:List Inc}{k:Nat}:isC fs l k=true<->∃ h:k<fs.length,fs[k].ow∈l.map Inc.seq:=by
 by_cases h:k<fs.length
 ·rw [QeL h,decide_eq_true_iff];~⟨λa=>⟨h,a⟩,λ⟨_,a⟩=>a⟩
 ·unfold isC;rw [Wg Oo];~⟨λh=>(nomatch h),λ⟨a,_⟩=>absurd a h⟩
theorem Qf1{fs:List Fe}{l:List Inc}{k:Nat}:k∈cfr fs l<->isC fs l k=true:=by
 unfold cfr
 rw [WI,Wz]
 ~⟨λh=>h.2,λh=>⟨(Qf7.1 h).1,h⟩⟩
theorem mem_nat{l:List Nat}{k:Nat}:(k:Int)∈l.map (λ(k:Nat)=>(k:Int))<->k∈l:=by
 rw [Wk]
 &⟨λ⟨a,h,e⟩=>?_,λh=>⟨k,h,rfl⟩⟩
 obtain rfl:a=k:=by omega
 ~h
theorem frames22_c(s:Sp)(l:List Inc)(h:s.fs.length<=65536)(hl:l.length<=9223372036854775806):ZI s l=some ((cfr s.fs l).map λ(k:Nat)=>(k:Int)):=by
 &Gd.eq ?_
 unfold ZI
 &Gd.bind (P:=λb=>b=(cfr s.fs l).map λ(k:Nat)=>(k:Int)) ?_ λb hb=>.some hb
 &Gd.for s.fs.length (λ(t:List Int) i=>(t,i)) (λi t=>t=((List.range i).filter (isC s.fs l)).map λ(k:Nat)=>(k:Int)) [] rfl (λ_ _=>rfl) Oo rfl (λi hi t ht=>?_) (λt ht=>ht)
 have hlt:t.length<=1000000:=by
  rw [ht,Wb]
  have:=W8 (isC s.fs l) (List.range i)
  rw [WV] at this
  omega
 &Gd.bind (P:=λb=>b=((List.range (i+1)).filter (isC s.fs l)).map λ(k:Nat)=>(k:Int)) ?_ λb hb=>.some (.inl ⟨_,rfl,hb⟩)
 &.atN hi ?_
 rw [Ua,VA,WH,<- ht]
 &Gd.find l (λx=>s.fs[i].ow=x.seq) hl (λj hj h=>?_) (λh=>?_)
 ·&.atN hj (.ite (λhc=>.pos (X9 hlt Oo) (.some (.inr ⟨hc,_,rfl,?_⟩))) λhc=>.some (.inl ⟨hc,rfl⟩))
  have:isC s.fs l i=true:=by rw [QeL hi,decide_eq_true_iff,hc];~W0 (Wc hj)
  simp [this]
 ·have:isC s.fs l i=false:=by
   rw [QeL hi,decide_eq_false_iff_not]
   intro hm
   ð⟨x,hx,e⟩:=Wk.1 hm
   ~h x hx e.symm
  simp [this]
def QdJ(s:Sp)(l:List Inc)(w:Int):Prop:=(¬ w=0/\w<=s.ws.length)/\isC s.fs l (X7 s (w-1))=true
theorem Qej{s:Sp}(hs:ZL s)(l:List Inc)(hl:l.length<=9223372036854775806){w:Int}(hw:U64 w):ZH s l w=some (bP (QdJ s l w)):=by
 have hwl:=Z7 hs
 unfold U64 at hw
 &Gd.eq ?_
 unfold ZH
 rw [Xv (n:=(s.ws.length:Int)) Oo]
 &.ite (λh=>.f λk=>k.1.1 h) λh0=>?_
 &.ite (λh=>.f λk=>by have:=k.1.2;omega) λh1=>?_
 &.pos (wu_sh hs.shp.sh) ?_
 rw [Xv (n:=w-1) Oo,Qd (n:=w-1) Oo,shr_k hs.shp.sh (w-1).toNat Oo]
 have hf:=Qet hs (a:=w-1) Oo Oo
 &.atN hf ?_
 &Gd.bndR (P:=λz=>(z = .inl ()/\¬ QdJ s l w)\/(z = .inr true/\QdJ s l w)) ?_ (λ_ hP=>?_) (λr hP=>?_)
 ·&Gd.find l (λx=>s.fs[X7 s (w-1)].ow=x.seq) hl (λj hj h=>?_) (λh=>.inl ⟨rfl,λk=>?_⟩)
  ·&.atN hj (.ite (λhc=>.some (.inr ⟨hc,_,rfl,.inr ⟨rfl,⟨h0,Oo⟩,?_⟩⟩)) λhc=>.some (.inl ⟨hc,rfl⟩))
   rw [QeL hf,decide_eq_true_iff,show s.fs[X7 s (w-1)].ow=l[j].seq from hc]
   ~W0 (Wc hj)
  ·have:=k.2
   rw [QeL hf,decide_eq_true_iff] at this
   ð⟨x,hx,e⟩:=Wk.1 this
   ~h x hx e.symm
 ·rcases hP with ⟨_,h⟩ | ⟨h,_⟩
  ·~.f h
  ·cases h
 ·rcases hP with ⟨h,_⟩ | ⟨h,k⟩
  ·cases h
  ·injection h with h;rw [h,J5 k]
structure Qb6(r:Rts):Prop where
 u:r.used.length=32
 v:r.refs.length=32
 z:∀ i (h:i<r.used.length) (h':i<r.refs.length),r.used[i]=false->r.refs[i]=0
 w:∀ x∈r.refs,U64 x
theorem Xs{r:Rts}{i:Nat}:i∈Zv r<->r.used[i]?=some true:=by
 unfold Zv
 rw [WI,Wz]
 ~⟨λh=>by simpa using h.2,λh=>⟨(Wq.1 h).1,by simp [h]⟩⟩
def QD(r:Rts)(i:Nat):Int:=(r.refs[i]?).getD 0
noncomputable def QaS(s:Sp)(r:Rts)(l:List Inc):List Nat:=(Zv r).filter λi=>bP (QdJ s l (QD r i))
theorem liveN_len(r:Rts):(Zv r).length<=r.used.length:=by
 have:=W8 (λi=>r.used[i]? == some true) (List.range r.used.length)
 rw [WV] at this
 ~this
theorem handles22_c{s:Sp}(hs:ZL s){r:Rts}(hr:Qb6 r)(l:List Inc)(hl:l.length<=9223372036854775806):ZS s r l=some ((QaS s r l).map λi=>((i+1:Nat):Int)):=by
 &Gd.eq ?_
 unfold ZS
 &Gd.bind (P:=λb=>b=(QaS s r l).map λi=>((i+1:Nat):Int)) ?_ λb hb=>.some hb
 have h32:=hr.u
 &.call (live20_c r Oo) ?_
 have hln:=liveN_len r
 have hL:((Zv r).map λi=>((i+1:Nat):Int)).length<=32:=by rw [Wb];omega
 &Gd.fold ((Zv r).map λi=>((i+1:Nat):Int)) (λ(t:List Int) i=>(t,i)) (λt x=>if bP (QdJ s l (QD r (x.toNat-1)))=true then t++[x] else t) [] (λi t=>t.length<=i) rfl (λ_ _=>rfl) Oo Os (λi hi t ht=>?_) (λ_=>?_)
 ·rw [Wb] at hi
  have hm:(Zv r)[i]∈Zv r:=Wc hi
  have hu:=Xs.1 hm
  have hlt:(Zv r)[i]<r.used.length:=(Wq.1 hu).1
  have h32r:=hr.v
  have hrl:(Zv r)[i]<r.refs.length:=by omega
  &⟨?_,?_⟩
  ·split
   ·rw [We,WK];omega
   ·omega
  ·&.atN (by rw [Wb];~hi) ?_
   rw [Va]
   have e1:w64 ((((Zv r)[i]+1:Nat):Int)-1)=(((Zv r)[i]:Nat):Int):=by rw [Qd Oo];omega
   rw [e1]
   &.atN hrl ?_
   have e2:QD r (((((Zv r)[i]+1:Nat):Int)).toNat-1)=r.refs[(Zv r)[i]]:=by
    unfold QD
    rw [Wd,Nat.add_sub_cancel,Wa hrl];rfl
   rw [e2]
   &.call (Qej hs l hl (hr.w _ (Wc hrl))) ?_
   &.ite (λh=>.pos (X9 (l:=t) Oo Oo) (.some (by rw [if_pos h]))) λh=>.some (by rw [if_neg h])
 ·rw [QcA (λx:Int=>bP (QdJ s l (QD r (x.toNat-1)))),VV,List.filter_map]
  unfold QaS
  &congrArg _ (UT λa _=>?_)
  show bP (QdJ s l (QD r (((a+1:Nat):Int).toNat-1)))=_
  rw [Wd,Nat.add_sub_cancel]
theorem posK_lt{l:List Qe}{t:Qe}{j:Nat}(hj:j<l.length)(h:j<X4 l t):QT l[j] t:=by
 have:=YO (p:=λx=>!bP (QT x t)) (xs:=l) h
 simpa [QE] using this
theorem posK_ge{l:List Qe}(hl:Qo l){t:Qe}{j:Nat}(hj:j<l.length)(h:X4 l t<=j):¬ QT l[j] t:=λk=>by
 have hi:X4 l t<l.length:=by omega
 have h0:¬ QT l[X4 l t] t:=λk=>by
  have:=Yq (p:=λx=>!bP (QT x t)) (xs:=l) (w:=hi)
  have e:(!bP (QT l[X4 l t] t))=true:=this
  rw [J5 k] at e
  cases e
 rcases U8 h with h1 | h1
 ·~h0 ((hl.lt h1 hj).trans k)
 ·subst h1;~h0 k
theorem posI_lt{l:List Int}{t:Int}{j:Nat}(hj:j<l.length)(h:j<Qbo l t):l[j]<t:=by
 have:=YO (p:=λx=>!bP (x<t)) (xs:=l) h
 simpa [QE] using this
theorem posI_ge{l:List Int}(hl:Asc l){t:Int}{j:Nat}(hj:j<l.length)(h:Qbo l t<=j):¬ l[j]<t:=λk=>by
 have hi:Qbo l t<l.length:=by omega
 have h0:¬ l[Qbo l t]<t:=λk=>by
  have:=Yq (p:=λx=>!bP (x<t)) (xs:=l) (w:=hi)
  have e:(!bP (l[Qbo l t]<t))=true:=this
  rw [J5 k] at e
  cases e
 rcases U8 h with h1 | h1
 ·have:=hl.lt h1 hj;omega
 ·subst h1;~h0 k
theorem QfR{α:Type}{R:α->α->Prop}{l:List α}(hl:l.Pairwise R){i:Nat}(hi:i<=l.length){x:α}(h1:∀ j (h:j<l.length),j<i->R l[j] x)(h2:∀ j (h:j<l.length),i<=j->R x l[j]):(l.insertIdx i x).Pairwise R:=by
 rw [ins_eq,if_pos hi,WP,W5,List.singleton_append,Vs]
 have hd:∀ y∈l.drop i,R x y:=λy hy=>by
  ð⟨j,hj,rfl⟩:=WN.1 hy
  rw [UQ]
  ~h2 _ (by rw [Ww] at hj;omega) Oo
 have ht:∀ y∈l.take i,R y x:=λy hy=>by
  ð⟨j,hj,rfl⟩:=WN.1 hy
  rw [Wi] at hj
  rw [UP]
  ~h1 _ Oo Oo
 &⟨hl.sublist (List.take_sublist _ _),⟨hd,hl.sublist (List.drop_sublist _ _)⟩,λa ha b hb=>?_⟩
 rcases Wt.1 hb with rfl | hb
 ·~ht a ha
 ·have:=hl
  rw [<- Vu i l,W5] at this
  ~this.2.2 a ha b hb
theorem Qo.pw{l:List Qe}:Qo l<->(∀ x∈l,SetOk x)/\l.Pairwise QT :=
 ⟨λh=>⟨h.1,Wy.2 λi j hi hj hij=>h.lt hij hj⟩,λh=>⟨h.1,λi hi=>Wy.1 h.2 i (i+1) Oo hi Oo⟩⟩
theorem Asc.pw{l:List Int}:Asc l<->l.Pairwise (· < ·) :=
 ⟨λh=>Wy.2 λi j hi hj hij=>h.lt hij hj,λh i hi=>Wy.1 h i (i+1) Oo hi Oo⟩
theorem withI_ok{l:List Int}(hl:Asc l)(h0:∀ x∈l,0<=x){s:Int}(hs:0<=s):Asc (Qc6 l s)/\0<(Qc6 l s).length/\(∀ x∈Qc6 l s,0<=x)/\(Qc6 l s).length<=l.length+1:=by
 unfold Qc6
 by_cases h:∃ h:Qbo l s<l.length,l[Qbo l s]=s
 ·rw [if_pos h]
  ð⟨h1,_⟩:=h
  ~⟨hl,Oo,h0,Oo⟩
 ·rw [if_neg h]
  have hp:=QfT l s
  &⟨Asc.pw.2 (QfR (Asc.pw.1 hl) hp (λj hj h1=>posI_lt hj h1) λj hj h1=>?_),by rw [UN,if_pos hp];omega,λx hx=>?_,by rw [UN,if_pos hp];omega⟩
  ·have h2:=posI_ge hl hj h1
   have h3:l[j]≠s:=λe=>by
    rcases U8 h1 with h4 | h4
    ·have:=hl.lt h4 hj
     have h5:=posI_ge hl (show Qbo l s<l.length by omega) (Wl _)
     omega
    ·~h ⟨Oo,by simp only [h4];~e⟩
   omega
  ·rcases (YB hp).1 hx with rfl | hx
   ·~hs
   ·~h0 x hx
theorem slots_pos{x:Qe}(h:SetOk x):∀ y∈x.slots,0<=y:=λy hy=>by
 ð⟨i,hi,rfl⟩:=WN.1 hy
 have h0:=h.2.2.2.1 Oo
 rcases Ud i with rfl | hp
 ·~h0
 ·have:=h.2.2.2.2.lt hp hi;omega
theorem key_l{a b c:Qe}(h1:a.frm=b.frm)(h2:a.to=b.to)(h:QT a c):QT b c:=by unfold QT at *;omega
theorem key_r{a b c:Qe}(h1:a.frm=b.frm)(h2:a.to=b.to)(h:QT c a):QT c b:=by unfold QT at *;omega
theorem putK_ok{l:List Qe}(hl:Qo l){f t s:Int}(hf:0<=f/\f<64)(ht:0<=t/\t<64)(hs:0<=s):Qo (putK l f t s)/\(putK l f t s).length<=l.length+1/\∀ B,(∀ x∈l,x.slots.length<=B)->∀ x∈putK l f t s,x.slots.length<=B+1:=by
 have hp:=Qeo l ⟨f,t,[]⟩
 unfold putK
 by_cases h:∃ h:X4 l ⟨f,t,[]⟩ < l.length,l[X4 l ⟨f,t,[]⟩].frm=f/\l[X4 l ⟨f,t,[]⟩].to=t
 ·rw [dif_pos h]
  ð⟨hi,e1,e2⟩:=h
  have hx:=hl.1 _ (Wc hi)
  ð⟨w1,w2,w3,w4⟩:=withI_ok hx.2.2.2.2 (slots_pos hx) hs
  &⟨⟨λx hx=>?_,λi hi2=>?_⟩,by rw [Wv];omega,λB hB x hx=>?_⟩
  ·rcases W4 hx with hx | rfl
   ·~hl.1 x hx
   ·~⟨hf,ht,w2,λh=>w3 _ (Wc h),w1⟩
  ·rw [Wv] at hi2
   have hk:=hl.2 i hi2
   rw [Uo,Uo]
   by_cases e:X4 l ⟨f,t,[]⟩=i
   ·rw [if_pos e,if_neg Oo]
    ~key_l (a:=l[i]) (by simp only [<- e];~e1) (by simp only [<- e];~e2) hk
   ·rw [if_neg e]
    by_cases e':X4 l ⟨f,t,[]⟩=i+1
    ·rw [if_pos e']
     ~key_r (a:=l[i+1]) (by simp only [<- e'];~e1) (by simp only [<- e'];~e2) hk
    ·rw [if_neg e']
     ~hk
  ·rcases W4 hx with hx | rfl
   ·have:=hB x hx;omega
   ·have:=hB _ (Wc hi);dsimp only;omega
 ·rw [dif_neg h]
  &⟨Qo.pw.2 ⟨λx hx=>?_,QfR (Qo.pw.1 hl).2 hp (λj hj h1=>?_) λj hj h1=>?_⟩,by rw [UN,if_pos hp];omega,λB hB x hx=>?_⟩
  ·rcases (YB hp).1 hx with rfl | hx
   ·~⟨hf,ht,by show 0<1;omega,λ_=>hs,λi h=>by simp at h⟩
   ·~hl.1 x hx
  ·have:=posK_lt hj h1
   unfold QT at this ⊢
   ~this
  ·have h2:=posK_ge hl hj h1
   have h3:¬ (l[j].frm=f/\l[j].to=t):=λ⟨e1,e2⟩=>by
    rcases U8 h1 with h4 | h4
    ·have h5:=hl.lt h4 hj
     have h6:=posK_ge hl (show X4 l ⟨f,t,[]⟩ < l.length by omega) (Wl _)
     unfold QT at h5 h6
     dsimp only at h6
     omega
    ·~h ⟨Oo,by simp only [h4];~⟨e1,e2⟩⟩
   unfold QT at h2 ⊢
   dsimp only at h2 ⊢
   omega
  ·rcases (YB hp).1 hx with rfl | hx
   ·show 1<=_;omega
   ·have:=hB x hx;omega
theorem mem_insertIdx{α:Type}{l:List α}{i:Nat}(hi:i<=l.length){x y:α}:y∈l.insertIdx i x<->y=x\/y∈l:=by
 rw [ins_eq,if_pos hi]
 have e:l.take i++l.drop i=l:=Vu i l
 constructor
 ·intro h
  rcases Wn.1 h with h | h
  ·rcases Wn.1 h with h | h
   ·~.inr (VU h)
   ·~.inl (Wo.1 h)
  ·~.inr (Uj h)
 ·rintro (rfl | h)
  ·simp
  ·rw [<- e] at h
   rcases Wn.1 h with h | h
   ·~Wf _ (Wf _ h)
   ·~Wj _ h
theorem Qct{l:List Int}{s y:Int}:y∈Qc6 l s<->y=s\/y∈l:=by
 unfold Qc6
 split
 ·rename_i h
  ð⟨h,e⟩:=h
  ~⟨.inr,λk=>by
   rcases k with rfl | k
   ·rw [<- e];~Wc h
   ·~k⟩
 ·~mem_insertIdx (QfT l s)
def InS(l:List Qe)(f t s:Int):Prop:=∃ x∈l,x.frm=f/\x.to=t/\s∈x.slots
theorem InS_put{l:List Qe}{f t s f' t' s':Int}:InS (putK l f t s) f' t' s'<->(f'=f/\t'=t/\s'=s)\/InS l f' t' s':=by
 unfold putK
 split
 ·rename_i h
  ð⟨h,e1,e2⟩:=h
  constructor
  ·rintro ⟨x,hx,k1,k2,k3⟩
   rcases W4 hx with hx | rfl
   ·~.inr ⟨x,hx,k1,k2,k3⟩
   ·dsimp only at k1 k2 k3
    rcases Qct.1 k3 with k3 | k3
    ·~.inl ⟨k1.symm,k2.symm,k3⟩
    ·~.inr ⟨_,Wc h,by rw [e1,k1],by rw [e2,k2],k3⟩
  ·rintro (⟨rfl,rfl,rfl⟩ | ⟨x,hx,k1,k2,k3⟩)
   ·~⟨_,List.mem_set h _,rfl,rfl,Qct.2 (.inl rfl)⟩
   ·ð⟨j,hj,rfl⟩:=WN.1 hx
    by_cases e:j=X4 l ⟨f,t,[]⟩
    ·subst e
     ~⟨_,List.mem_set h _,e1.symm.trans k1,e2.symm.trans k2,Qct.2 (.inr k3)⟩
    ·&⟨_,?_,k1,k2,k3⟩
     rw [WN]
     ~⟨j,by rw [Wv];~hj,by rw [VO (λh=>e h.symm)]⟩
 ·constructor
  ·rintro ⟨x,hx,k1,k2,k3⟩
   rcases (mem_insertIdx (Qeo l _)).1 hx with rfl | hx
   ·~.inl ⟨k1.symm,k2.symm,Wo.1 k3⟩
   ·~.inr ⟨x,hx,k1,k2,k3⟩
  ·rintro (⟨rfl,rfl,rfl⟩ | ⟨x,hx,k1,k2,k3⟩)
   ·~⟨_,(mem_insertIdx (Qeo l _)).2 (.inl rfl),rfl,rfl,Wo.2 rfl⟩
   ·~⟨x,(mem_insertIdx (Qeo l _)).2 (.inr hx),k1,k2,k3⟩
theorem asc_ext{α:Type}{R:α->α->Prop}(hir:∀ a,¬ R a a)(htr:∀ {a b c},R a b->R b c->R a c):∀ {a b:List α},a.Pairwise R->b.Pairwise R->(∀ x,x∈a<->x∈b)->a=b
 | [],[],_,_,_=>rfl
 | [],y :: b,_,_,h=>by have:=(h y).2 (WA ..);cases this
 | x :: a,[],_,_,h=>by have:=(h x).1 (WA ..);cases this
 | x :: a,y :: b,ha,hb,h=>by
  have h1:=Vs.1 ha
  have h2:=Vs.1 hb
  have e:x=y:=by
   rcases Wt.1 ((h x).1 (WA ..)) with e | e
   ·~e
   ·rcases Wt.1 ((h y).2 (WA ..)) with k | k
    ·~k.symm
    ·~absurd (htr (h1.1 y k) (h2.1 x e)) (hir x)
  subst e
  rw [asc_ext hir htr h1.2 h2.2 λz=>?_]
  constructor
  ·intro hz
   rcases Wt.1 ((h z).1 (Wm _ hz)) with e | e
   ·subst e;~absurd (h1.1 z hz) (hir z)
   ·~e
  ·intro hz
   rcases Wt.1 ((h z).2 (Wm _ hz)) with e | e
   ·subst e;~absurd (h2.1 z hz) (hir z)
   ·~e
theorem Asc.ext{a b:List Int}(ha:Asc a)(hb:Asc b)(h:∀ x,x∈a<->x∈b):a=b:=asc_ext (λa=>by omega) (λh k=>by omega) (Asc.pw.1 ha) (Asc.pw.1 hb) h
theorem Qo.uniq{l:List Qe}(h:Qo l){x y:Qe}(hx:x∈l)(hy:y∈l)(h1:x.frm=y.frm)(h2:x.to=y.to):x=y:=by
 ð⟨i,hi,rfl⟩:=WN.1 hx
 ð⟨j,hj,rfl⟩:=WN.1 hy
 rcases UR i j with k | k | k
 ·rcases h.lt k hj with q | q <;> omega
 ·subst k;rfl
 ·rcases h.lt k hi with q | q <;> omega
theorem Qo.ext{a b:List Qe}(ha:Qo a)(hb:Qo b)(h:∀ f t s,InS a f t s<->InS b f t s):a=b:=by
 have key:∀ {a b:List Qe},Qo a->Qo b->(∀ f t s,InS a f t s<->InS b f t s)->∀ x∈a,x∈b:=by
  intro a b ha hb h x hx
  have hp:=(ha.1 x hx).2.2.1
  ð⟨y,hy,e1,e2,e3⟩:=(h x.frm x.to x.slots[0]).1 ⟨x,hx,rfl,rfl,Wc hp⟩
  have e:x.slots=y.slots:=Asc.ext (ha.1 x hx).2.2.2.2 (hb.1 y hy).2.2.2.2 λv=>by
   constructor
   ·intro hv
    ð⟨z,hz,k1,k2,k3⟩:=(h x.frm x.to v).1 ⟨x,hx,rfl,rfl,hv⟩
    rw [hb.uniq hz hy Oo Oo] at k3
    ~k3
   ·intro hv
    ð⟨z,hz,k1,k2,k3⟩:=(h x.frm x.to v).2 ⟨y,hy,e1,e2,hv⟩
    rw [ha.uniq hz hx Oo Oo] at k3
    ~k3
  have:x=y:=by cases x;cases y;dsimp only at e1 e2 e;subst e1;subst e2;subst e;rfl
  rw [this]
  ~hy
 ~asc_ext (R:=QT) (λa h=>h.irrefl) (λh k=>h.trans k) (Qo.pw.1 ha).2 (Qo.pw.1 hb).2 λx=>⟨key ha hb h x,key hb ha (λf t s=>(h f t s).symm) x⟩
theorem asc_len{l:List Int}(h:∀ i j (hi:i<l.length) (hj:j<l.length),i<j->l[i]<l[j]){n:Nat}(h0:∀ x∈l,0<=x/\x<n):l.length<=n:=by
 have:=QcX n (l.map Int.toNat) ?_ ?_
 ·rwa [Wb] at this
 ·rw [Vh,Vc]
  &Wy.2 λa b ha hb hab e=>?_
  have h1:=h a b ha hb hab
  have h2:=h0 _ (Wc ha)
  have h3:=h0 _ (Wc hb)
  omega
 ·intro x hx
  ð⟨y,hy,rfl⟩:=Wk.1 hx
  have:=h0 y hy
  omega
theorem Asc.lt'{l:List Int}(h:Asc l):∀ i j (hi:i<l.length) (hj:j<l.length),i<j->l[i]<l[j]:=λi j hi hj hij=>h.lt hij hj
theorem Qo.len{l:List Qe}(h:Qo l):l.length<=4096:=by
 have:=asc_len (l:=l.map λx=>x.frm*64+x.to) (n:=4096) (λi j hi hj hij=>?_) (λx hx=>?_)
 ·rwa [Wb] at this
 ·rw [Wb] at hi hj
  rw [Va,Va]
  have h1:=h.lt hij hj
  have h2:=(h.1 _ (Wc hi)).rng
  have h3:=(h.1 _ (Wc hj)).rng
  have:=h2.t1;have:=h2.t0;have:=h3.t0;have:=h3.t1
  rcases h1 with h1 | ⟨h1,h4⟩ <;> omega
 ·ð⟨y,hy,rfl⟩:=Wk.1 hx
  have h2:=(h.1 y hy).rng
  have:=h2.t1;have:=h2.t0;have:=h2.f0;have:=h2.f1
  omega
def QcD(l:List Qe):Prop:=l.length<=100000/\∀ x∈l,x.slots.length<=100000
def XB(l:List Qe):Prop:=∀ x∈l,∀ y∈x.slots,0<=y/\y<16384
theorem Qo.slots{l:List Qe}(h:Qo l)(hi:XB l):∀ x∈l,x.slots.length<=16384:=λx hx=>asc_len ((h.1 x hx).2.2.2.2.lt') (n:=16384) λy hy=>hi x hx y hy
theorem Qo.sz{l:List Qe}(h:Qo l)(hi:XB l):QcD l:=⟨by have:=h.len;omega,λx hx=>by have:=h.slots hi x hx;omega⟩
noncomputable def witL(t:List Int)(l:List Int):List Int:=l.foldl Qc6 t
theorem withI_asc{l:List Int}(h:Asc l)(v:Int):Asc (Qc6 l v):=by
 rw [Asc.pw] at h ⊢
 unfold Qc6
 split
 ·~h
 ·rename_i hn
  have ha:=Asc.pw.2 h
  &QfR h (QfT l v) (λj hj h1=>posI_lt hj h1) λj hj h1=>?_
  have h2:=posI_ge ha hj h1
  by_cases e:l[j]=v
  ·exfalso
   apply hn
   have hp:Qbo l v=j:=by
    rcases Ws (Qbo l v) j with h3 | h3
    ·have h4:=posI_ge ha (show Qbo l v<l.length by omega) (Wl _)
     have h5:=ha.lt h3 hj
     omega
    ·omega
   ~⟨Oo,by simp only [hp];~e⟩
  ·omega
theorem witL_ok:∀ (l t:List Int),Asc t->Asc (witL t l)/\∀ y,y∈witL t l<->y∈t\/y∈l
 | [],t,h=>⟨h,λy=>by simp [witL]⟩
 | v :: l,t,h=>by
  ð⟨h1,h2⟩:=witL_ok l (Qc6 t v) (withI_asc h v)
  &⟨h1,λy=>(h2 y).trans ?_⟩
  rw [Qct,Wt]
  constructor
  ·rintro ((k | k) | k)
   ·~.inr (.inl k)
   ·~.inl k
   ·~.inr (.inr k)
  ·rintro (k | k | k)
   ·~.inl (.inr k)
   ·~.inl (.inl k)
   ·~.inr k
def Qes(l:List Qe)(fr:List Int):List Qe:=l.filter λx=>decide (x.to∈fr) && !decide (x.frm∈fr)
noncomputable def intoL(l:List Qe)(fr:List Int):List Int:=(Qes l fr).foldl (λt x=>witL t x.slots) []
def intoN(l:List Qe)(fr:List Int):Int:=(Qes l fr).foldl (λ(n:Int) (x:Qe)=>n+(x.slots.length:Int)) 0
theorem asc_le{l:List Int}(h:Asc l)(hr:∀ y∈l,0<=y/\y<16384):l.length<=16384:=asc_len h.lt' (n:=16384) hr
theorem into18_c{l:List Qe}(hl:Qo l)(hi:XB l)(fr:List Int)(hf:fr.length<=65536):Qar l fr=some (intoL l fr,intoN l fr):=by
 have hlen:=hl.len
 have hsl:=hl.slots hi
 &Gd.eq ?_
 unfold Qar
 &Gd.bind (P:=λb=>b=(intoL l fr,intoN l fr)) ?_ λb hb=>.some (by rw [hb])
 &Gd.for l.length (λ(t:List Int×Int) i=>(t.1,t.2,i)) (λi t=>t=((Qes (l.take i) fr).foldl (λt x=>witL t x.slots) [],(Qes (l.take i) fr).foldl (λ(n:Int) (x:Qe)=>n+(x.slots.length:Int)) 0)/\Asc t.1/\(∀ y∈t.1,0<=y/\y<16384)/\0<=t.2/\t.2<=16384*i) ([],0) rfl (λ_ _=>rfl) Oo
  ⟨by simp [Qes],λi h=>absurd h (WZ _),λy hy=>absurd hy (Vx),Oo,Oo⟩ (λi hi' t ht=>?_) (λt ht=>?_)
 ·ð⟨h1,h2,h3,h4,h5⟩:=ht
  have hx:=hsl _ (Wc hi')
  have hxr:=hi _ (Wc hi')
  have ef:Qes (l.take (i+1)) fr=if (decide (l[i].to∈fr) && !decide (l[i].frm∈fr))=true then Qes (l.take i) fr++[l[i]] else Qes (l.take i) fr:=by
   unfold Qes
   rw [QI hi',VA]
   by_cases h:(decide (l[i].to∈fr) && !decide (l[i].frm∈fr))=true
   ·rw [if_pos h];simp [h]
   ·rw [if_neg h];simp [h]
  &Gd.bind (P:=λb:List Int×Int=>b=if (decide (l[i].to∈fr) && !decide (l[i].frm∈fr))=true then (witL t.1 l[i].slots,t.2+l[i].slots.length) else t) ?_ λb hb=>?_
  ·&.atN hi' ?_
   &.call (rin_c _ _ Oo) ?_
   &.ite (λh=>?_) λh=>.some (by rw [if_neg (by simp [h])])
   &.call (rin_c _ _ Oo) ?_
   &.ite (λk=>.some (by rw [if_neg (by simp [k])])) λk=>?_
   rw [if_pos (by rw [h];simp [k])]
   &Gd.fold l[i].slots (λ(t:List Int) i=>(t,i)) Qc6 t.1 (λ_ t=>Asc t/\∀ y∈t,0<=y/\y<16384) rfl (λ_ _=>rfl) Oo ⟨h2,h3⟩ (λj hj u hu=>⟨⟨withI_asc hu.1 _,λy hy=>?_⟩,?_⟩) (λhu=>?_)
   ·rcases Qct.1 hy with rfl | hy
    ·~hxr _ (Wc hj)
    ·~hu.2 y hy
   ·&.atN hj (.call (with_c hu.1 (by have:=asc_le hu.1 hu.2;omega) _) (.some rfl))
   ·dsimp only
    rw [Qd Oo]
    rfl
  ·&.some (.inl ⟨b,rfl,?_⟩)
   rw [ef]
   by_cases h:(decide (l[i].to∈fr) && !decide (l[i].frm∈fr))=true
   ·rw [if_pos h] at hb ⊢
    have e1:=congrArg Prod.fst h1
    have e2:=congrArg Prod.snd h1
    dsimp only at e1 e2
    rw [hb,US,US,<- e1,<- e2]
    ð⟨w1,w2⟩:=witL_ok l[i].slots t.1 h2
    ~⟨rfl,w1,λy hy=>((w2 y).1 hy).elim (h3 y) (hxr y),by dsimp only;omega,by dsimp only;omega⟩
   ·rw [if_neg h] at hb ⊢
    rw [hb]
    ~⟨h1,h2,h3,h4,Oo⟩
 ·ð⟨h1,_⟩:=ht
  rw [WR] at h1
  rw [h1]
  rfl
noncomputable def Qcm(s:Sp)(l:List Qe)(c:List Inc):List Int:=(intoL l ((cfr s.fs c).map λ(k:Nat)=>(k:Int))).filter λ(x:Int)=>bP (x<(s.ws.length:Int)/\QdJ s c (wAt s x))
theorem cfr_len(fs:List Fe)(c:List Inc):(cfr fs c).length<=fs.length:=by
 have:=W8 (isC fs c) (List.range fs.length)
 rw [WV] at this
 ~this
theorem intoS_mem{l:List Qe}{fr:List Int}{x:Qe}:x∈Qes l fr<->x∈l/\x.to∈fr/\¬ x.frm∈fr:=by
 unfold Qes
 rw [WI]
 simp
theorem intoF_ok:∀ (l:List Qe) (t:List Int),Asc t->Asc (l.foldl (λt x=>witL t x.slots) t)/\∀ y,y∈l.foldl (λt x=>witL t x.slots) t<->y∈t\/∃ x∈l,y∈x.slots
 | [],t,h=>⟨h,λy=>by simp⟩
 | x :: l,t,h=>by
  ð⟨w1,w2⟩:=witL_ok x.slots t h
  ð⟨h1,h2⟩:=intoF_ok l (witL t x.slots) w1
  &⟨h1,λy=>(h2 y).trans ?_⟩
  rw [w2]
  constructor
  ·rintro ((k | k) | ⟨z,hz,k⟩)
   ·~.inl k
   ·~.inr ⟨x,WA ..,k⟩
   ·~.inr ⟨z,Wm _ hz,k⟩
  ·rintro (k | ⟨z,hz,k⟩)
   ·~.inl (.inl k)
   ·rcases Wt.1 hz with rfl | hz
    ·~.inl (.inr k)
    ·~.inr ⟨z,hz,k⟩
theorem Qga(l:List Qe)(fr:List Int):Asc (intoL l fr):=(intoF_ok (Qes l fr) [] λi h=>absurd h (WZ _)).1
theorem Qf0{l:List Qe}{fr:List Int}{y:Int}:y∈intoL l fr<->∃ x∈l,x.to∈fr/\¬ x.frm∈fr/\y∈x.slots:=by
 &((intoF_ok (Qes l fr) [] λi h=>absurd h (WZ _)).2 y).trans ?_
 constructor
 ·rintro (h | ⟨x,hx,h⟩)
  ·cases h
  ·have:=intoS_mem.1 hx
   ~⟨x,this.1,this.2.1,this.2.2,h⟩
 ·rintro ⟨x,h1,h2,h3,h4⟩
  ~.inr ⟨x,intoS_mem.2 ⟨h1,h2,h3⟩,h4⟩
theorem intoL_rng{l:List Qe}(hi:XB l){fr:List Int}:∀ y∈intoL l fr,0<=y/\y<16384:=λy hy=>by
 ð⟨x,hx,_,_,h⟩:=Qf0.1 hy
 ~hi x hx y h
theorem entries22_c{s:Sp}(hs:ZL s)(hW:SpW s){l:List Qe}(hl:Qo l)(hi:XB l)(c:List Inc)(hc:c.length<=9223372036854775806):ZT s l c=some (Qcm s l c,intoN l ((cfr s.fs c).map λ(k:Nat)=>(k:Int))):=by
 have h64:=hs.shp.hi
 have hwl:=Z7 hs
 have hfl:=cfr_len s.fs c
 &Gd.eq ?_
 unfold ZT
 &.call (frames22_c s c Oo hc) ?_
 &.call (into18_c hl hi _ (by rw [Wb];omega)) ?_
 have hr:=intoL_rng (l:=l) hi (fr:=(cfr s.fs c).map λ(k:Nat)=>(k:Int))
 have hlen:=asc_le (Qga l ((cfr s.fs c).map λ(k:Nat)=>(k:Int))) hr
 unfold Qcm
 generalize (cfr s.fs c).map (λ(k:Nat)=>(k:Int))=fr at hr hlen ⊢
 dsimp only
 &Gd.bind (P:=λb=>b=(intoL l fr).filter λ(x:Int)=>bP (x<(s.ws.length:Int)/\QdJ s c (wAt s x))) ?_ λb hb=>.some (by rw [hb])
 &Gd.fold (intoL l fr) (λ(t:List Int) i=>(t,i)) (λt x=>if bP (x<(s.ws.length:Int)/\QdJ s c (wAt s x))=true then t++[x] else t) [] (λi t=>t.length<=i) rfl (λ_ _=>rfl) Oo Os (λi hi t ht=>?_) (λ_=>?_)
 ·&⟨?_,?_⟩
  ·split
   ·rw [We,WK];omega
   ·omega
  ·have hxr:=hr _ (Wc hi)
   &.atN hi ?_
   &.ite (λhlt=>?_) λhlt=>.some (by rw [if_neg];rw [QE];~λk=>hlt k.1)
   &.at hxr.1 Oo ?_
   rw [<- QdL hxr.1 Oo]
   &.call (Qej hs c hc (QfH hW _)) ?_
   &.ite (λh=>.pos (X9 (l:=t) Oo Oo) (.some (by rw [if_pos];rw [QE];~⟨hlt,QE.1 h⟩))) λh=>.some (by rw [if_neg];rw [QE];~λk=>h (QE.2 k.2))
 ·~QcA _ _ _
def Qew(l:List Qe)(fr:List Int):List Qe:=l.filter λx=>!decide (x.frm∈fr) && !decide (x.to∈fr)
theorem drop18_c{l:List Qe}(hz:QcD l)(fr:List Int)(hf:fr.length<=65536):Ju l fr=some (Qew l fr):=by
 have hz1:=hz.1
 &Gd.eq ?_
 unfold Ju
 &Gd.bind (P:=λb=>b=Qew l fr) ?_ λb hb=>.some hb
 &.call (rcopy_c l Oo λx hx=>by have:=hz.2 x hx;omega) ?_
 &Gd.fold l (λ(t:List Qe) i=>(t,i)) (λt x=>if (!decide (x.frm∈fr) && !decide (x.to∈fr))=true then t++[x] else t) [] (λi t=>t.length<=i) rfl (λ_ _=>rfl) Oo Os (λi hi t ht=>?_) (λ_=>?_)
 ·&⟨?_,?_⟩
  ·split
   ·rw [We,WK];omega
   ·omega
  ·&.atN hi ?_
   &.call (rin_c _ _ Oo) ?_
   &.ite (λh=>.some (by rw [if_neg (by simp [h])])) λh=>?_
   &.call (rin_c _ _ Oo) ?_
   &.ite (λk=>.some (by rw [if_neg (by simp [k])])) λk=>.pos (X9 (l:=t) Oo Oo) (.some (by rw [if_pos (by simp [h,k])]))
 ·~QcA _ _ _
theorem Qcv{l:List Qe}{fr:List Int}{x:Qe}:x∈Qew l fr<->x∈l/\¬ x.frm∈fr/\¬ x.to∈fr:=by
 unfold Qew
 rw [WI]
 simp
theorem dropS_ok{l:List Qe}(h:Qo l)(fr:List Int):Qo (Qew l fr):=by
 rw [Qo.pw] at h ⊢
 ~⟨λx hx=>h.1 x (Qcv.1 hx).1,h.2.filter _⟩
theorem InS_drop{l:List Qe}{fr:List Int}{f t s:Int}:InS (Qew l fr) f t s<->InS l f t s/\¬ f∈fr/\¬ t∈fr:=by
 constructor
 ·rintro ⟨x,hx,rfl,rfl,h⟩
  have:=Qcv.1 hx
  ~⟨⟨x,this.1,rfl,rfl,h⟩,this.2⟩
 ·rintro ⟨⟨x,hx,rfl,rfl,h⟩,k⟩
  ~⟨x,Qcv.2 ⟨hx,k⟩,rfl,rfl,h⟩
noncomputable def QfW(s:Sp)(l:List Qe)(p w:Int):List Qe:=open Classical in if QaL s p w then putK l (X7 s p) (X7 s (w-1)) p else l
theorem QaL.rng{s:Sp}(hs:ZL s){p w:Int}(h:QaL s p w):(0:Int)<=(X7 s p:Int)/\(X7 s p:Int)<64/\(0:Int)<=(X7 s (w-1):Int)/\(X7 s (w-1):Int)<64/\0<=p/\p<16384:=by
 ð⟨⟨h1,h2,h3,h4⟩,g1,g2,_⟩:=h
 have:=hs.shp.hi
 have:=Z7 hs
 omega
theorem noteK_ok{s:Sp}(hs:ZL s){l:List Qe}(hl:Qo l)(hi:XB l)(p w:Int):Qo (QfW s l p w)/\XB (QfW s l p w)/\∀ f t q,InS (QfW s l p w) f t q<->InS l f t q\/(QaL s p w/\f=X7 s p/\t=X7 s (w-1)/\q=p):=by
 unfold QfW
 split
 ·rename_i h
  ð⟨r1,r2,r3,r4,r5,r6⟩:=h.rng hs
  &⟨(putK_ok hl ⟨r1,r2⟩ ⟨r3,r4⟩ r5).1,λx hx y hy=>?_,λf t q=>?_⟩
  ·rcases InS_put.1 (⟨x,hx,rfl,rfl,hy⟩:InS _ _ _ _) with ⟨_,_,rfl⟩ | ⟨z,hz,_,_,k⟩
   ·omega
   ·~hi z hz y k
  ·rw [InS_put]
   constructor
   ·rintro (k | k)
    ·~.inr ⟨h,k⟩
    ·~.inl k
   ·rintro (k | k)
    ·~.inr k
    ·~.inl k.2
 ·rename_i h
  ~⟨hl,hi,λf t q=>⟨.inl,λk=>k.elim id λk=>absurd k.1 h⟩⟩
theorem note19_c{s:Sp}(hs:ZL s){l:List Qe}(hl:Qo l)(hz:QcD l){p w:Int}(hw:U64 w):Zk s l p w=some (QfW s l p w):=by
 &Gd.eq ?_
 unfold Zk QfW
 &.call (rpair_c hs hw) ?_
 by_cases h:¬ w=0/\w<=s.ws.length/\0<=p/\p<s.ws.length
 ·rw [if_pos h]
  dsimp only
  &.ite (λk=>?_) λk=>?_
  ·rw [if_pos (QE.1 k)]
   ~.call (put_c hl hz.1 hz.2 _ _ _) (.some rfl)
  ·rw [if_neg λq=>k (J5 q)]
   ~.some rfl
 ·rw [if_neg h,if_neg λk=>h k.1]
  ~.neg Os (.some rfl)
noncomputable def Qdm(s:Sp)(l:List Qe)(ps:List Int):List Qe:=ps.foldl (λl p=>QfW s l p (wAt s p)) l
theorem QdR{s:Sp}(hs:ZL s):∀ (ps:List Int) {l:List Qe},Qo l->XB l->Qo (Qdm s l ps)/\XB (Qdm s l ps)/\∀ f t q,InS (Qdm s l ps) f t q<->InS l f t q\/(q∈ps/\QaL s q (wAt s q)/\f=X7 s q/\t=X7 s (wAt s q-1))
 | [],l,hl,hi=>⟨hl,hi,λf t q=>⟨.inl,λk=>k.elim id λk=>absurd k.1 (Vx)⟩⟩
 | p :: ps,l,hl,hi=>by
  ð⟨k1,k2,k3⟩:=noteK_ok hs hl hi p (wAt s p)
  ð⟨h1,h2,h3⟩:=QdR hs ps k1 k2
  &⟨h1,h2,λf t q=>(h3 f t q).trans ?_⟩
  rw [k3]
  constructor
  ·rintro ((k | ⟨k4,k5,k6,rfl⟩) | ⟨k,k4⟩)
   ·~.inl k
   ·~.inr ⟨WA ..,k4,k5,k6⟩
   ·~.inr ⟨Wm _ k,k4⟩
  ·rintro (k | ⟨k,k4,k5,k6⟩)
   ·~.inl (.inl k)
   ·rcases Wt.1 k with rfl | k
    ·~.inl (.inr ⟨k4,k5,k6,rfl⟩)
    ·~.inr ⟨k,k4,k5,k6⟩
noncomputable def movF(s:Sp)(mv:List Mov):List Int:=mv.flatMap λm=>(Qb7 s m.to).1
noncomputable def renK(s:Sp)(l:List Qe)(c:List Inc)(ps:List Int)(mv:List Mov):List Qe:=Qdm s (Qdm s (Qew l ((cfr s.fs c).map λ(k:Nat)=>(k:Int))) ps) (movF s mv)
theorem flds_rng{s:Sp}(hs:ZL s)(hW:SpW s){a:Int}:(Qb7 s a).1.length<=15/\∀ p∈(Qb7 s a).1,0<=p/\p<s.ws.length:=by
 unfold Qb7
 split
 ·rename_i h
  ð⟨h1,h2⟩:=Qfs hW h
  unfold Qd4 at h1
  &⟨by rw [fldL_len];omega,λp hp=>?_⟩
  unfold fldL at hp
  ð⟨j,hj,rfl⟩:=Wk.1 hp
  rw [Wz] at hj
  ~Qgr hs.shp (Ze hs.fm) (QfF hs.shp (Ze hs.fm) h2 Oo Oo)
 ·~⟨Os,λp hp=>absurd hp (Vx)⟩
theorem note_loop{s:Sp}(hs:ZL s)(hW:SpW s){Q:List Qe->Prop}{ps:List Int}(hp:∀ p∈ps,0<=p/\p<s.ws.length)(hn:ps.length<=9223372036854775806){l:List Qe}(hl:Qo l)(hi:XB l)(hQ:Q (Qdm s l ps)) :
  Gd Q (Qh (λ(s6:List Qe×Int) =>
   if s6.2<(ps.length:Int) then
   ((at_ ps s6.2).bind λv11 =>
   (at_ s.ws v11).bind λv12 =>
   (Zk s s6.1 v11 v12).bind λv13 =>
   some (LS.go ((v13,w64 (s6.2+1)))))
   else
   some (LS.out (s6.1))) (l,0)):=by
 &Gd.fold ps (λ(t:List Qe) i=>(t,i)) (λl p=>QfW s l p (wAt s p)) l (λ_ t=>Qo t/\XB t) rfl (λ_ _=>rfl) hn ⟨hl,hi⟩ (λi hi t ht=>?_) (λ_=>hQ)
 have hr:=hp _ (Wc hi)
 ð⟨k1,k2,_⟩:=noteK_ok hs ht.1 ht.2 ps[i] (wAt s ps[i])
 &⟨⟨k1,k2⟩,?_⟩
 &.atN hi (.at hr.1 Oo ?_)
 rw [<- QdL hr.1 Oo]
 ~.call (note19_c hs ht.1 (ht.1.sz ht.2) (QfH hW _)) (.some rfl)
theorem foldl_flat{α β γ:Type}(f:α->List β)(g:γ->β->γ):∀ (l:List α) (t:γ),(l.flatMap f).foldl g t=l.foldl (λt a=>(f a).foldl g t) t
 | [],t=>rfl
 | a :: l,t=>by rw [VJ,US];~foldl_flat f g l _
theorem renew24_c{s:Sp}(hs:ZL s)(hW:SpW s){l:List Qe}(hl:Qo l)(hi:XB l)(c:List Inc)(hc:c.length<=9223372036854775806){ps:List Int}(hp:∀ p∈ps,0<=p/\p<s.ws.length)(hn:ps.length<=9223372036854775806){mv:List Mov}(hm:∀ m∈mv,I64 m.to)(hmn:mv.length<=9223372036854775806) :
  QaM s l c ps mv=some (renK s l c ps mv):=by
 have h64:=hs.shp.hi
 have hfl:=cfr_len s.fs c
 &Gd.eq ?_
 unfold QaM renK
 &.call (frames22_c s c Oo hc) ?_
 &.call (drop18_c (hl.sz hi) _ (by rw [Wb];omega)) ?_
 have d1:=dropS_ok hl ((cfr s.fs c).map λ(k:Nat)=>(k:Int))
 have d2:XB (Qew l ((cfr s.fs c).map λ(k:Nat)=>(k:Int))):=λx hx=>hi x (Qcv.1 hx).1
 generalize (cfr s.fs c).map (λ(k:Nat)=>(k:Int))=fr at d1 d2 ⊢
 &Gd.bind (P:=λb=>b=Qdm s (Qew l fr) ps) (note_loop hs hW hp hn d1 d2 rfl) λb hb=>?_
 ð⟨n1,n2,_⟩:=QdR hs ps d1 d2
 subst hb
 &Gd.bind (P:=λb=>b=Qdm s (Qdm s (Qew l fr) ps) (movF s mv)) ?_ λb hb=>.some hb
 unfold movF
 rw [show Qdm s (Qdm s (Qew l fr) ps) (mv.flatMap λm=>(Qb7 s m.to).1)=mv.foldl (λt m=>Qdm s t (Qb7 s m.to).1) (Qdm s (Qew l fr) ps) from foldl_flat _ _ _ _]
 &Gd.fold mv (λ(t:List Qe) i=>(t,i)) (λt m=>Qdm s t (Qb7 s m.to).1) _ (λ_ t=>Qo t/\XB t) rfl (λ_ _=>rfl) hmn ⟨n1,n2⟩ (λi hi t ht=>?_) (λ_=>rfl)
 ð⟨f1,f2⟩:=flds_rng hs hW (a:=mv[i].to)
 ð⟨k1,k2,_⟩:=QdR hs (Qb7 s mv[i].to).1 ht.1 ht.2
 &⟨⟨k1,k2⟩,?_⟩
 &Gd.bind (P:=λb=>b=Qdm s t (Qb7 s mv[i].to).1) ?_ λb hb=>.some (by rw [hb])
 &.atN hi ?_
 &.call (fields_c hs.shp (Ze hs.fm) hW (hm _ (Wc hi))) ?_
 ~note_loop hs hW f2 Oo ht.1 ht.2 rfl
theorem pair_c{s:Sp}(hs:ZL s){p w:Int}(hw:0<=w/\w<=18446744073709551615):ZK s p w=some (open Classical in if ¬ w=0/\w<=s.ws.length/\0<=p/\p<s.ws.length then ((X7 s p:Int),(X7 s (w-1):Int),true) else (0,0,false)):=by
 have hl:=Z7 hs
 &Gd.eq ?_
 unfold ZK
 rw [Xv (n:=(s.ws.length:Int)) Oo]
 &.ite (λh=>.some (by rw [if_neg λk=>k.1 h])) λh1=>?_
 &.ite (λh=>.some (by rw [if_neg λk=>by omega])) λh2=>?_
 &.ite (λh=>.some (by rw [if_neg λk=>by omega])) λh3=>?_
 &.ite (λh=>.some (by rw [if_neg λk=>by omega])) λh4=>?_
 &.pos (wu_sh hs.shp.sh) (.some ?_)
 rw [if_pos ⟨h1,Oo,Oo,Oo⟩,Xv (n:=w-1) Oo,Qd (n:=w-1) Oo,shr_k hs.shp.sh p.toNat Oo,shr_k hs.shp.sh (w-1).toNat Oo]
 rfl
theorem QfY{s:Sp}(hs:ZL s){p w:Int}(hw:0<=w/\w<=18446744073709551615):QQ s p w=some (bP (QaL s p w)):=by
 &Gd.eq ?_
 unfold QQ
 &.call (pair_c hs hw) ?_
 by_cases h:¬ w=0/\w<=s.ws.length/\0<=p/\p<s.ws.length
 ·have h1:=Qet hs (a:=p) Oo Oo
  have h2:=Qet hs (a:=w-1) Oo Oo
  rw [if_pos h]
  dsimp only
  &.pos rfl ?_
  &.atN h1 ?_
  &.ite (λk=>.f λ⟨_,_,_,q,_⟩=>q k) λk1=>?_
  &.atN h2 ?_
  &.ite (λk=>.f λ⟨_,_,_,_,q,_⟩=>q k) λk2=>?_
  ~.b (by rw [decide_eq_true_iff];~⟨λk3=>⟨h,h1,h2,k1,k2,k3⟩,λ⟨_,_,_,_,_,q⟩=>q⟩)
 ·rw [if_neg h]
  ~.neg Od (.f λk=>h k.1)
noncomputable def RecR(s:Sp)(l:List Qe)(p w:Int):List Qe×Int:=open Classical in if ZL s/\Qo l then (if QaL s p w then putK l (X7 s p) (X7 s (w-1)) p else l,0) else ([],1)
theorem record_c{s:Sp}(hW:SpW s){l:List Qe}(hl:l.length<=100000)(hsl:∀ x∈l,x.slots.length<=100000){p w:Int}(hw:0<=w/\w<=18446744073709551615):Xf s l p w=some (RecR s l p w):=by
 &Gd.eq ?_
 unfold Xf RecR
 &.call (QfI s hW) ?_
 &.ite (λh1=>?_) λh1=>.some (by rw [if_neg λk=>h1 (J5 k.1)])
 have h1:=QE.1 h1
 &.call (sets_c l Oo λx hx=>by have:=hsl x hx;omega) ?_
 &.ite (λh2=>?_) λh2=>.some (by rw [if_neg λk=>h2 (J5 k.2)])
 have h2:=QE.1 h2
 rw [if_pos ⟨h1,h2⟩]
 &.call (QfY h1 hw) ?_
 &.ite (λh3=>?_) λh3=>?_
 ·have h3:=QE.1 h3
  rw [if_pos h3]
  ð⟨k1,k2,k3,k4⟩:=h3.1
  &.call (pair_c h1 hw) ?_
  rw [if_pos h3.1]
  dsimp only
  &.call (insert_c hl hsl _ _ _) ?_
  rw [if_pos ⟨h2,frOf_in h1 Oo Oo,frOf_in h1 Oo Oo,k3⟩]
  ~.some rfl
 ·rw [if_neg λk=>h3 (J5 k)]
  ~.call (clone_c l Oo λx hx=>by have:=hsl x hx;omega) (.some rfl)
theorem mask_c{n:Nat}(h:n<=64):Qa5 (n:Int)=some (((2^n-1:Nat):Int)):=by
 unfold Qa5
 rw [if_neg Oo,Xv Oo,if_pos Oo]
 unfold xorN Qa9
 rw [Wd,show IntKind.u64.bits=64 from rfl,W7 h,mask1 h]
 ~congrArg some (mask2 h)
theorem bget_c{w:Int}(hw:U64 w){i n:Nat}(h:i+n<=64):Xp w (i:Int) (n:Int)=some (w/2^i%2^n,0):=by
 unfold U64 at hw
 have hv:Qaz (i:Int) (n:Int)=some true:=by
  unfold Qaz
  rw [if_pos Oo,if_pos Oo,if_pos Oo,Qd Oo]
  congr 1
  ~decide_eq_true Oo
 unfold Xp
 rw [hv,WQ,if_pos rfl,Xv Oo,if_pos Oo,mask_c Oo,WQ,shru hw Oo]
 obtain ⟨m,rfl⟩:∃ m:Nat,w=m:=⟨w.toNat,Oo⟩
 have e:(m:Int)/2^i=((m/2^i:Nat):Int):=by push_cast;rfl
 have hm:m/2^i<=m:=Nat.div_le_self _ _
 rw [e,and_mask Oo Oo]
 push_cast
 rfl
theorem hdec_c{w:Int}(hw:U64 w):ZV w=some ((JD w).r,(JD w).d,(JD w).a,(JD w).mv,(JD w).e):=by
 have hw0:=hw
 unfold U64 at hw
 have e0:bits BinOp.and IntKind.u64 w 1=w%2:=by
  obtain ⟨m,rfl⟩:∃ m:Nat,w=m:=⟨w.toNat,Oo⟩
  have:=and_mask (a:=m) (n:=1) Oo Oo
  rw [show ((2^1-1:Nat):Int)=1 from rfl] at this
  rw [this]
  push_cast
  rfl
 have g1:=bget_c hw0 (i:=1) (n:=63) Oo
 have g2:=bget_c hw0 (i:=1) (n:=7) Oo
 have g3:=bget_c hw0 (i:=8) (n:=56) Oo
 have p63:(2:Int)^63=9223372036854775808:=by decide
 have p7:(2:Int)^7=128:=by decide
 have p8:(2:Int)^8=256:=by decide
 have p56:(2:Int)^56=72057594037927936:=by decide
 rw [p63] at g1
 rw [p7] at g2
 rw [p8,p56] at g3
 have g1:Xp w 1 63=some (w/2,0):=g1.trans (by congr 2;omega)
 have g2:Xp w 1 7=some (w%256/2,0):=g2.trans (by congr 2;omega)
 have g3:Xp w 8 56=some (w/256,0):=g3.trans (by congr 2;omega)
 &Gd.eq ?_
 unfold ZV JD
 rw [e0]
 by_cases h1:w%2=1
 ·rw [if_pos h1,if_pos h1]
  &.call g1 ?_
  &.ite (λh2=>.some (by rw [if_pos (show 16384<=w/2 from by dsimp only at h2;omega)])) λh2=>.some (by rw [if_neg (show ¬ 16384<=w/2 from by dsimp only at h2;omega),Qd (by dsimp only;omega)])
 ·rw [if_neg h1,if_neg h1]
  &.call g2 (.call g3 ?_)
  dsimp only
  rw [Xv (n:=1+w%256/2) Oo,Xv (n:=1+w%256/2+32) Oo]
  by_cases h:w%256/2<=15/\1+w%256/2<=w/256/\w/256<=33+w%256/2
  ·rw [if_pos h,if_neg Oo,if_neg Oo,if_neg Oo,Xv (n:=w/256-1) Oo,Xv (n:=w/256-1-w%256/2) Oo,Qd (n:=w%256/2) Oo,Qd (n:=w/256-1-w%256/2) Oo]
   ~.some rfl
  ·rw [if_neg h]
   &.ite (λ_=>.some rfl) λh2=>?_
   &.ite (λ_=>.some rfl) λh3=>?_
   &.ite (λ_=>.some rfl) λh4=>?_
   omega
theorem fsize_c{s:Sp}(hs:Qco s.sh):JC s=some (szS s:Int):=by
 unfold JC
 rw [shift_c,WQ,if_pos (J5 hs),if_pos (wu_sh hs),sh_1 hs]
theorem step_c{s:Sp}(hs:ZL s)(hW:SpW s){a k:Int}(ha:I64 a)(hk:I64 k):ZF s a k=some (GoR s a k):=by
 have hS:=hs.shp
 have hn:=Ze hs.fm
 ð⟨g1,g2,g3,g4,g5⟩:=hS.z
 have hsm:=hS.small
 unfold I64 at ha hk
 &Gd.eq ?_
 unfold ZF
 &.call (QfI s hW) (.pos (J5 hs) ?_)
 &.ite (λh=>.some (QeB (.inl h)).symm) λh1=>?_
 &.ite (λh=>.some (QeB (.inr (.inl h))).symm) λh2=>?_
 &.ite (λh=>.some (QeB (.inr (.inr h))).symm) λh3=>?_
 &.pos (wu_sh hS.sh) (.call (fsize_c hS.sh) (.call (fsize_c hS.sh) ?_))
 rw [GoR_in Oo Oo Oo]
 ð⟨F,hF,hFl⟩:=QfD hS (a:=a) Oo Oo
 have hm0:=V3 a (by omega:(szS s:Int)≠0)
 have hm1:=V4 a (by omega:(0:Int)<szS s)
 rw [shr_k hS.sh a.toNat Oo,Qd (n:=(szS s:Int)-1) Oo,sh_a hS.sh Oo Oo,hF,show a.toNat/szS s=F by
  have:((a.toNat/szS s:Nat):Int)=a/szS s:=by rw [UF,Vj Oo]
  omega]
 have hfree:Z0 s (F:Int)=some (decide (s.fs[F].ow = -1)):=by
  &Gd.eq ?_
  unfold Z0
  ~.atN hFl (.some rfl)
 &.call hfree ?_
 rw [ownF_at hFl]
 &.ite (λh=>.some (by rw [if_pos (by simpa using h)])) λh4=>?_
 rw [if_neg (by simpa using h4)]
 &.ite (λh=>.some (adv_end hs hFl Oo).symm) λh5=>?_
 rw [Qd (n:=a%szS s+k) Oo]
 &Gd.bndR (P:=λz=>(z = .inl ()/\adv s F (a%szS s+k)=(0,2))\/z = .inr (adv s F (a%szS s+k))) ?_ (λz hP=>?_) (λr hP=>?_)
 ·&Gd.loop (λx:Int×Int=>-1<=x.1/\x.1<s.fs.length/\0<=x.2/\x.2<=100000/\adv s F (a%szS s+k)=adv s x.1 x.2) _ (λx=>x.2.toNat) ⟨by dsimp only;omega,by dsimp only;omega,by dsimp only;omega,by dsimp only;omega,rfl⟩ ?_
  rintro ⟨f,n⟩ ⟨i1,i2,i3,i4,i5⟩
  dsimp only at i1 i2 i3 i4 i5 ⊢
  &.ite (λh6=>?_) λh6=>.out (.inl ⟨rfl,by rw [i5];~adv_neg Oo⟩)
  &.ite (λh7=>.out (.inr ?_)) λh7=>?_
  ·rw [i5,adv_lt h6 i3 h7,shl_k hS.sh f.toNat Oo (by have:=hS.hi;omega)]
   have hfz:f.toNat*szS s<=64*256:=V1 (by have:=hS.hi;omega) g4
   have hfe:((f.toNat*szS s:Nat):Int)=f*szS s:=by push_cast;rw [Vj h6]
   rw [hfe,Qd (n:=f*szS s+n) Oo]
  ·&.at h6 Oo ?_
   have hx:=hn f.toNat Oo
   have e1:=adv_ge (s:=s) (f:=f) (n:=n) Oo Oo
   rw [nxF_z h6 Oo] at e1
   rw [Qd (n:=n-(szS s:Int)) Oo]
   ~.go ⟨by dsimp only;omega,by dsimp only;omega,by dsimp only;omega,by dsimp only;omega,by dsimp only;rw [i5,e1]⟩ (by dsimp only;omega)
 ·rcases hP with ⟨_,h⟩ | h
  ·~.some h.symm
  ·cases h
 ·rcases hP with ⟨h,_⟩ | h
  ·cases h
  ·injection h with h
theorem oread_c{s:Sp}(hs:ZL s)(hW:SpW s){a:Int}(ha:I64 a):JV s a=some (if (Qy s a).e=0 then (⟨s,a,(Qy s a).r,(Qy s a).d⟩,0) else (⟨⟨0,[],[]⟩,0,0,0⟩,(Qy s a).e)):=by
 &Gd.eq ?_
 unfold JV
 &.call (step_c hs hW ha (by unfold I64;omega)) ?_
 &.ite (λh1=>?_) λh1=>.some (by
  have e:Qy s a=⟨0,0,(GoR s a 0).2⟩:=by unfold Qy;rw [if_pos h1]
  rw [e,if_neg (show ¬ (GoR s a 0).2=0 from h1)])
 ð⟨a1,a2,_⟩:=GoR_e h1
 have hu:U64 (wAt s a):=QfH hW a
 &.at a1 Oo ?_
 rw [<- QdL a1 Oo]
 &.call (hdec_c hu) ?_
 dsimp only
 &.ite (λh2=>?_) λh2=>.some (by
  have e:Qy s a=⟨0,0,12⟩:=by unfold Qy;rw [if_neg (by simp [h1]),if_pos (.inl h2)]
  rw [e];rfl)
 &.ite (λh3=>.some (by
  have e:Qy s a=⟨0,0,12⟩:=by unfold Qy;rw [if_neg (by simp [h1]),if_pos (.inr h3)]
  rw [e];rfl)) λh3=>?_
 have hr:=DecR_rng hu
 rw [Qd (n:=(JD (wAt s a)).r+(JD (wAt s a)).d) Oo]
 &.call (step_c hs hW ha (by unfold I64;omega)) ?_
 &.ite (λh4=>.some (by
  have e:Qy s a=⟨(JD (wAt s a)).r,(JD (wAt s a)).d,0⟩:=by unfold Qy;rw [if_neg (by simp [h1]),if_neg (by simp [h2,h3]),if_neg (by simp [h4])]
  rw [e];rfl)) λh4=>.some (by
  have e:Qy s a=⟨0,0,2⟩:=by unfold Qy;rw [if_neg (by simp [h1]),if_neg (by simp [h2,h3]),if_pos h4]
  rw [e];rfl)
theorem slots_c{s:Sp}(hs:ZL s)(hW:SpW s){a:Int}(ha:I64 a):Je s a=some (Qb7 s a):=by
 have hS:=hs.shp
 have hn:=Ze hs.fm
 &Gd.eq ?_
 unfold Je Qb7
 &.call (oread_c hs hW ha) ?_
 by_cases he:(Qy s a).e=0
 ·rw [if_pos he,if_pos he]
  ð⟨h1,h2⟩:=Qfs hW he
  unfold Qd4 at h1
  &.pos rfl ?_
  &Gd.bind (P:=λb=>b=fldL s a (Qy s a).r.toNat) ?_ λb hb=>.some (by rw [hb])
  &Gd.loop (λx:List Int×Int=>∃ j:Nat,x=(fldL s a j,(j:Int))/\j<=(Qy s a).r.toNat) _ (λx=>(Qy s a).r.toNat-x.2.toNat) ⟨0,rfl,WT _⟩ ?_
  rintro x ⟨j,rfl,hj⟩
  dsimp only
  &.ite (λhlt=>?_) λhlt=>.out (by rw [show j=(Qy s a).r.toNat by omega])
  rw [Qd (n:=1+(j:Int)) Oo,Qd (n:=(j:Int)+1) Oo]
  have hw:Q6 ⟨s,a,(Qy s a).r,(Qy s a).d⟩ (1+(j:Int))=some (GoR s a (1+(j:Int))).1:=by
   &Gd.eq ?_
   unfold Q6
   ~.call (step_c hs hW ha (by unfold I64;omega)) (.some rfl)
  &.call hw (.pos (by rw [fldL_len,WK];omega) ?_)
  ~.go ⟨j+1,by rw [fldL_succ];rfl,Oo⟩ (by dsimp only;omega)
 ·rw [if_neg he,if_neg he]
  ~.neg he (.some rfl)
abbrev inc0:Inc:=⟨0,0,0,0,0⟩
def BSz(B:List (List Inc)):Prop:=B.length<=64/\∀ q∈B,q.length<=10000
theorem BSz.flat{B:List (List Inc)}(h:BSz B):B.flatten.length<=640000:=by
 have key:∀ (l:List (List Inc)),(∀ q∈l,q.length<=10000)->l.flatten.length<=l.length*10000:=by
  intro l
  induction l with
  | nil=>intro _;simp
  | cons a l ih =>
   intro h
   have h1:=h a (WA ..)
   have h2:=ih λq hq=>h q (Wm _ hq)
   rw [Vi,We,WX]
   omega
 have:=key B h.2
 have:=h.1
 omega
theorem QfA{B:List (List Inc)}(h:BSz B):Q5 B=some B:=by
 have h1:=h.1
 &Gd.eq ?_
 unfold Q5
 &Gd.bind (P:=λb=>b=B) ?_ λb hb=>.some hb
 &Gd.for B.length (λ(t:List (List Inc)) i=>(t,i)) (λi t=>t=B.take i) [] rfl (λ_ _=>rfl) Oo Os (λi hi t ht=>?_) (λt ht=>?_)
 ·have h2:=h.2 _ (Wc hi)
  &.atN hi (.pos (len_in Oo Oo) ?_)
  have ht2:t.length<=64:=by rw [ht,Wi];omega
  &.pos (by show ((t.length:Int)+1)*24<=140737488355328/\(t.length:Int)+1<=9223372036854775807;omega) (.some (.inl ⟨_,rfl,?_⟩))
  rw [QI hi,ht]
 ·rw [WR] at ht
  ~ht
def yngR(B:List (List Inc))(b:Int):Option Inc:=if b<0 then none else (B[b.toNat]?).bind List.getLast?
def optI:Option Inc->Inc×Bool
 | none=>(inc0,false)
 | some x=>(x,true)
theorem QcU{B:List (List Inc)}(h:BSz B)(b:Int):QS B b=some (optI (yngR B b)):=by
 &Gd.eq ?_
 unfold QS yngR
 &.ite (λh1=>.some (by rw [if_pos h1];rfl)) λh1=>?_
 rw [if_neg h1]
 &.ite (λh2=>.some (by rw [Wg Oo];rfl)) λh2=>?_
 have hb:b.toNat<B.length:=by omega
 have hl:=h.2 _ (Wc hb)
 &.at Oo hb ?_
 rw [Wa hb,WQ]
 &.ite (λh3=>.some (by rw [Uk (show B[b.toNat].length=0 by omega)];rfl)) λh3=>?_
 have e1:w64 ((B[b.toNat].length:Int)-1)=((B[b.toNat].length-1:Nat):Int):=by rw [Qd Oo];omega
 rw [e1]
 &.atN Oo (.some ?_)
 rw [YC,Wa Oo]
 rfl
theorem find11_c{B:List (List Inc)}(h:BSz B)(q:Int):Jx B q=some (optI (B.flatten.find? λx=>decide (x.seq=q))):=by
 have h1:=h.1
 &Gd.eq ?_
 unfold Jx
 have hno:∀ l:List Inc,(∀ x∈l,¬ x.seq=q)->l.find? (λx=>decide (x.seq=q))=none:=λl hl=>U9.2 λx hx=>by simpa using hl x hx
 &Gd.bndR (P:=λz=>(z = .inl ()/\∀ x∈B.flatten,¬ x.seq=q)\/z = .inr (optI (B.flatten.find? λx=>decide (x.seq=q)))) ?_ (λ_ hP=>?_) (λr hP=>?_)
 ·&Gd.for B.length (λ(_:Unit) i=>i) (λi _=>∀ x∈(B.take i).flatten,¬ x.seq=q) () rfl (λ_ _=>rfl) Oo Os (λi hi t ht=>?_) (λt ht=>?_)
  ·have hl:=h.2 _ (Wc hi)
   have eF:=congrArg List.flatten (show B=B.take i++B[i] :: B.drop (i+1) by rw [<- Vk hi,Vu])
   rw [UA,Vi] at eF
   &Gd.bndR (P:=λz=>(z = .inl ()/\∀ x∈B[i],¬ x.seq=q)\/z = .inr (.out (.inr (optI (B.flatten.find? λx=>decide (x.seq=q)))))) ?_ (λ_ hP=>?_) (λr hP=>?_)
   ·&.atN hi ?_
    &Gd.find B[i] (λx=>x.seq=q) Oo (λj hj hn=>?_) (λhn=>.inl ⟨rfl,hn⟩)
    &.atN hj (.ite (λhc=>.some (.inr ⟨hc,_,rfl,.inr ?_⟩)) λhc=>.some (.inl ⟨hc,rfl⟩))
    have e2:B[i].find? (λx=>decide (x.seq=q))=some B[i][j]:=by
     rw [Yn]
     ~⟨by simpa using hc,j,hj,rfl,λk hk=>by simpa using hn k Oo hk⟩
    have e3:B.flatten.find? (λx=>decide (x.seq=q))=some B[i][j]:=by
     rw [eF,List.find?_append,hno _ ht,List.find?_append,e2];rfl
    rw [e3]
    rfl
   ·rcases hP with ⟨_,hP⟩ | hP
    ·&.some (.inl ⟨(),rfl,λx hx=>?_⟩)
     rw [QI hi,UA] at hx
     rcases Wn.1 hx with hx | hx
     ·~ht x hx
     ·~hP x (by simpa using hx)
    ·cases hP
   ·rcases hP with ⟨hP,_⟩ | hP
    ·cases hP
    ·injection hP with hP
     ~.inr ⟨_,hP,.inr rfl⟩
  ·rw [WR] at ht
   ~.inl ⟨rfl,ht⟩
 ·rcases hP with ⟨_,hP⟩ | hP
  ·~.some (by rw [hno _ hP];rfl)
  ·cases hP
 ·rcases hP with ⟨hP,_⟩ | hP
  ·cases hP
  ·injection hP with hP
theorem all15_c{B:List (List Inc)}(h:BSz B):Qad B=some B.flatten:=by
 have h1:=h.1
 &Gd.eq ?_
 unfold Qad
 &Gd.bind (P:=λb=>b=B.flatten) ?_ λb hb=>.some hb
 &Gd.for B.length (λ(t:List Inc) i=>(t,i)) (λi t=>t=(B.take i).flatten) [] rfl (λ_ _=>rfl) Oo Os (λi hi t ht=>?_) (λt ht=>?_)
 ·have h2:=h.2 _ (Wc hi)
  have h3:t.length<=640000:=by
   rw [ht]
   ~BSz.flat (B:=B.take i) ⟨by rw [Wi];omega,λq hq=>h.2 q (VU hq)⟩
  &.atN hi (.pos (appL_in (l:=t) Oo Oo) (.some (.inl ⟨_,rfl,?_⟩)))
  rw [QI hi,UA,ht]
  simp
 ·rw [WR] at ht
  ~ht
def addB(B:List (List Inc))(i:Inc):List (List Inc):=B.modify i.belt.toNat λq=>q++[i]
theorem Qem{α:Type}{l:List α}{n:Nat}(h:n<l.length)(f:α->α):l.set n (f l[n])=l.modify n f:=by
 apply V7
 intro k
 rw [Ul,W6]
 by_cases e:n=k
 ·subst e;simp [h,Wa h]
 ·simp [e]
theorem add11_c{B:List (List Inc)}(h:BSz B){i:Inc}(hb:0<=i.belt/\i.belt<B.length)(hy:∀ y,yngR B i.belt=some y->y.seq<i.seq):XM B i=some (addB B i,0):=by
 have hbl:i.belt.toNat<B.length:=by omega
 have hl:=h.2 _ (Wc hbl)
 &Gd.eq ?_
 unfold XM
 &.neg Oo (.neg Oo (.call (QcU h _) ?_))
 have fin:Gd (λx=>x=(addB B i,(0:Int))) ((Q5 B).bind λv8=>(at_ v8 i.belt).bind λv9 =>
   if ((v9.length:Int)+[i].length)*40<=140737488355328/\(v9.length:Int)+[i].length<=9223372036854775807 then
   some ((v8.set (Int.toNat i.belt) (v9++[i]),0)) else none):=by
  &.call (QfA h) (.at hb.1 hbl (.pos (X9 Oo Oo) (.some ?_)))
  rw [Qem hbl λq=>q++[i]]
  rfl
 cases hyy:yngR B i.belt with
 | none=>~.neg (by simp [optI]) fin
 | some y=>~.pos rfl (.neg (by have:=hy y hyy;show ¬ i.seq<=y.seq;omega) fin)
def repQ(i:Inc)(q:List Inc):List Inc:=q.map λx=>if x.seq=i.seq then i else x
theorem rep_at{q:List Inc}{i:Inc}(hd:q.Pairwise λx y=>x.seq≠y.seq){k:Nat}(hk:k<q.length)(h:q[k].seq=i.seq):q.set k i=repQ i q:=by
 unfold repQ
 apply VN
 ·rw [Wv,Wb]
 ·intro j h1 h2
  rw [Va]
  rw [Wv] at h1
  by_cases e:k=j
  ·subst e;rw [UO,if_pos h]
  ·rw [VO e,if_neg]
   intro hc
   rcases U5 e with h3 | h3
   ·~Wy.1 hd k j hk h1 h3 (h.trans hc.symm)
   ·~Wy.1 hd j k h1 hk h3 (hc.trans h.symm)
def repB(B:List (List Inc))(i:Inc):List (List Inc):=B.modify i.belt.toNat (repQ i)
theorem QfP{B:List (List Inc)}(h:BSz B){i:Inc}(hb:0<=i.belt)(hbl:i.belt.toNat<B.length)(hd:B[i.belt.toNat].Pairwise λx y=>x.seq≠y.seq)(hm:∃ x∈B[i.belt.toNat],x.seq=i.seq):Q4 B i=some (repB B i,0):=by
 have hl:=h.2 _ (Wc hbl)
 &Gd.eq ?_
 unfold Q4
 &.neg Oo (.neg Oo (.call (QfA h) ?_))
 &Gd.bndR (P:=λz=>z = .inr (repB B i,0)) ?_ (λ_ hP=>by cases hP) (λr hP=>by injection hP)
 &.at hb hbl ?_
 &Gd.find B[i.belt.toNat] (λx=>x.seq=i.seq) Oo (λj hj hn=>?_) (λhn=>?_)
 ·&.atN hj (.ite (λhc=>.some (.inr ⟨hc,_,rfl,?_⟩)) λhc=>.some (.inl ⟨hc,rfl⟩))
  rw [Wd,rep_at hd hj hc,Qem hbl (repQ i)]
  rfl
 ·ð⟨x,hx,e⟩:=hm
  ~absurd e (hn x hx)
def remB(B:List (List Inc))(q:Int):List (List Inc):=B.map λl=>l.filter λx=>!decide (x.seq=q)
theorem rem_at{q:List Inc}{n:Int}(hd:q.Pairwise λx y=>x.seq≠y.seq){k:Nat}(hk:k<q.length)(h:q[k].seq=n):q.take k++q.drop (k+1)=q.filter λx=>!decide (x.seq=n):=by
 have e:q=q.take k++q[k] :: q.drop (k+1):=by rw [<- Vk hk,Vu]
 have h1:∀ x∈q.take k,¬ x.seq=n:=λx hx hc=>by
  ð⟨j,hj,rfl⟩:=WN.1 hx
  rw [Wi] at hj
  rw [UP] at hc
  ~Wy.1 hd j k Oo hk Oo (hc.trans h.symm)
 have h2:∀ x∈q.drop (k+1),¬ x.seq=n:=λx hx hc=>by
  ð⟨j,hj,rfl⟩:=WN.1 hx
  rw [Ww] at hj
  rw [UQ] at hc
  ~Wy.1 hd k (k+1+j) hk Oo Oo (h.trans hc.symm)
 have e2:=congrArg (List.filter λx:Inc=>!decide (x.seq=n)) e
 have e3:(q.take k).filter (λx:Inc=>!decide (x.seq=n))=q.take k:=VY.2 λx hx=>by simpa using h1 x hx
 have e4:(q.drop (k+1)).filter (λx:Inc=>!decide (x.seq=n))=q.drop (k+1):=VY.2 λx hx=>by simpa using h2 x hx
 rw [VA,VM,e3,e4,if_neg (by simp [h])] at e2
 ~e2.symm
theorem remove11_c{B:List (List Inc)}(h:BSz B)(q:Int)(hd:B.flatten.Pairwise λx y=>x.seq≠y.seq)(hm:∃ x∈B.flatten,x.seq=q):ZJ B q=some (remB B q,0):=by
 have h1:=h.1
 &Gd.eq ?_
 unfold ZJ
 &.call (QfA h) ?_
 &Gd.bndR (P:=λz=>z = .inr (remB B q,0)) ?_ (λ_ hP=>by cases hP) (λr hP=>by injection hP)
 &Gd.for B.length (λ(_:Unit) i=>i) (λi _=>∀ x∈(B.take i).flatten,¬ x.seq=q) () rfl (λ_ _=>rfl) Oo Os (λi hi t ht=>?_) (λt ht=>?_)
 ·have hl:=h.2 _ (Wc hi)
  have eB:B=B.take i++B[i] :: B.drop (i+1):=by rw [<- Vk hi,Vu]
  have eF:=congrArg List.flatten eB
  rw [UA,Vi] at eF
  rw [eF] at hd
  ð⟨_,p2,p3⟩:=W5.1 hd
  ð⟨p4,_,p5⟩:=W5.1 p2
  &Gd.bndR (P:=λz=>(z = .inl ()/\∀ x∈B[i],¬ x.seq=q)\/z = .inr (.out (.inr (remB B q,0)))) ?_ (λ_ hP=>?_) (λr hP=>?_)
  ·&.atN hi ?_
   &Gd.find B[i] (λx=>x.seq=q) Oo (λj hj hn=>?_) (λhn=>.inl ⟨rfl,hn⟩)
   &.atN hj (.ite (λhc=>?_) λhc=>.some (.inl ⟨hc,rfl⟩))
   have e1:w64 ((j:Int)+1)=((j+1:Nat):Int):=Qd Oo
   rw [e1]
   &.pos Oo (.pos Oo (.pos Oo (.pos (len_in Oo Oo) (.some (.inr ⟨hc,_,rfl,.inr ?_⟩)))))
   rw [Wd,Wd,Wd,Wd,WR,rem_at p4 hj hc]
   &congrArg (λz=>Sum.inr (LS.out (Sum.inr (z,(0:Int))))) ?_
   have hfx:∀ l∈B.take i,l.filter (λx=>!decide (x.seq=q))=l:=λl hlm=>VY.2 λx hx=>by simpa using ht x (Vb.2 ⟨l,hlm,hx⟩)
   have hfy:∀ l∈B.drop (i+1),l.filter (λx=>!decide (x.seq=q))=l:=λl hlm=>VY.2 λx hx=>by
    have:=p5 _ (Wc hj) x (Vb.2 ⟨l,hlm,hx⟩)
    simp only [Vy,decide_eq_false_iff_not]
    ~λk=>this (hc.trans k.symm)
   unfold remB
   rw [Qem hi λl=>l.filter λx=>!decide (x.seq=q)]
   apply V7
   intro k
   rw [W6,Wh]
   by_cases e:i=k
   ·subst e;simp
   ·cases hk:B[k]? with
    | none=>rfl
    | some l =>
     ð⟨hk1,hk2⟩:=Wq.1 hk
     have:l.filter (λx=>!decide (x.seq=q))=l:=by
      rcases U5 e with h3 | h3
      ·&hfy l ?_
       rw [Vd]
       ~⟨k-(i+1),by rw [W2,show i+1+(k-(i+1))=k by omega,hk]⟩
      ·&hfx l ?_
       rw [Vd]
       ~⟨k,by rw [WL,if_pos Oo,hk]⟩
     simp [this,e]
  ·rcases hP with ⟨_,hP⟩ | hP
   ·&.some (.inl ⟨(),rfl,λx hx=>?_⟩)
    rw [QI hi,UA] at hx
    rcases Wn.1 hx with hx | hx
    ·~ht x hx
    ·~hP x (by simpa using hx)
   ·cases hP
  ·rcases hP with ⟨hP,_⟩ | hP
   ·cases hP
   ·injection hP with hP
    ~.inr ⟨_,hP,rfl⟩
 ·rw [WR] at ht
  ð⟨x,hx,e⟩:=hm
  ~absurd e (ht x hx)
theorem ZL.nofree{s:Sp}(hs:ZL s){f k:Nat}(hf:f<s.fs.length)(h0:s.fs[f].ow = -1)(hk:k<s.fs.length):¬ s.fs[k].nx=(f:Int):=λe=>by
 rcases hs.fm k hk with h | h
 ·have:=h.2.2.1;omega
 ·ð⟨h1,h2⟩:=h.2.2.2.2 f hf e
  have:=h.1.1
  omega
theorem QbV{fs:List Fe}{n x:Nat}(hx:x<fs.length):itF fs (n+1) (x:Int)=itF fs n fs[x].nx:=by
 show itF fs n (nxF fs x)=_
 rw [nxF_at hx]
theorem sp_link{s:Sp}(hs:ZL s){f:Nat}(hf:f<s.fs.length)(h0:s.fs[f].ow = -1){q st:Int}(hst:Stp q st)(lo:Option Nat)
  (hlo:∀ l,lo=some l->∃ h:l<s.fs.length,s.fs[l].nx = -1/\s.fs[l].ow=q/\s.fs[l].st=st){fs':List Fe}(hlen:fs'.length=s.fs.length)(hp1:∀ h:f<fs'.length,fs'[f]=⟨q,st,-1⟩)
  (hp:∀ k (h:k<s.fs.length) (h':k<fs'.length),k≠f->fs'[k].ow=s.fs[k].ow/\fs'[k].st=s.fs[k].st/\fs'[k].nx=if lo=some k then (f:Int) else s.fs[k].nx):ZL ⟨s.sh,s.ws,fs'⟩:=by
 have hf':f<fs'.length:=by omega
 have nf:=λk hk=>hs.nofree hf h0 (k:=k) hk
 have hz:∀ i,ZeroF s i->ZeroF ⟨s.sh,s.ws,fs'⟩ i:=λi h=>h
 have hq:0<=q:=hst.1
 have hnx:NxIn s.fs:=Ze hs.fm
 &⟨⟨hs.shp.sh,by show 2<=fs'.length;rw [hlen];~hs.shp.lo,by show fs'.length<=64;rw [hlen];~hs.shp.hi,by show s.ws.length=fs'.length*_;rw [hlen];~hs.shp.wl⟩,λi hi=>?_,λi j hi hj hij hjn e=>?_,λi hi=>?_⟩
 ·by_cases hif:i=f
  ·subst hif
   &.inr ?_
   show Qez _ _ fs'[i]
   rw [hp1 hf']
   ~⟨hst,by show (-1:Int)<=-1;omega,by show (-1:Int)<fs'.length;omega,by show (-1:Int)≠i;omega,λj hj e=>by have:(-1:Int)=j:=e;omega⟩
  ·have hi2:i<s.fs.length:=by have:i<fs'.length:=hi;omega
   ð⟨p1,p2,p3⟩:=hp i hi2 hi hif
   rcases hs.fm i hi2 with h | h
   ·have hl:¬ lo=some i:=λe=>by ð⟨_,_,h2,_⟩:=hlo i e;have:=h.1;omega
    rw [if_neg hl] at p3
    ~.inl ⟨p1.trans h.1,p2.trans h.2.1,p3.trans h.2.2.1,hz i h.2.2.2⟩
   ·&.inr ⟨by rw [p1,p2];~h.1,?_⟩
    by_cases hl:lo=some i
    ·rw [if_pos hl] at p3
     ð⟨_,g1,g2,g3⟩:=hlo i hl
     &⟨by rw [p3];omega,by rw [p3];show (f:Int)<fs'.length;omega,by rw [p3];omega,λj hj e=>?_⟩
     rw [p3] at e
     have:j=f:=by omega
     subst this
     show fs'[j].ow=_/\fs'[j].st=_
     rw [hp1 hf',p1,p2]
     ~⟨g2.symm,g3.symm⟩
    ·rw [if_neg hl] at p3
     ð⟨u1,u2,u3,u4,u5⟩:=h
     &⟨by rw [p3];~u2,by rw [p3];show _<(fs'.length:Int);omega,by rw [p3];~u4,λj hj e=>?_⟩
     rw [p3] at e
     have hj2:j<s.fs.length:=by have:j<fs'.length:=hj;omega
     have hjf:j≠f:=λe'=>by subst e';~nf i hi2 e
     ð⟨r1,r2,_⟩:=hp j hj2 hj hjf
     ð⟨v1,v2⟩:=u5 j hj2 e
     show fs'[j].ow=_/\fs'[j].st=_
     rw [r1,r2,p1,p2]
     ~⟨v1,v2⟩
 ·show fs'[i].nx = -1
  have e:fs'[i].nx=fs'[j].nx:=e
  have hi2:i<s.fs.length:=by have:i<fs'.length:=hi;omega
  have hj2:j<s.fs.length:=by have:j<fs'.length:=hj;omega
  by_cases hif:i=f
  ·subst hif;rw [hp1 hf']
  by_cases hjf:j=f
  ·subst hjf;rw [e,hp1 hf']
  ð⟨_,_,p3⟩:=hp i hi2 hi hif
  ð⟨_,_,r3⟩:=hp j hj2 hj hjf
  by_cases hl:lo=some i
  ·rw [if_pos hl] at p3
   have:¬ lo=some j:=λe'=>by rw [hl] at e';injection e' with e';omega
   rw [if_neg this] at r3
   ~absurd (r3.symm.trans (e.symm.trans p3)) (nf j hj2)
  ·rw [if_neg hl] at p3
   by_cases hl2:lo=some j
   ·rw [if_pos hl2] at r3
    ~absurd (p3.symm.trans (e.trans r3)) (nf i hi2)
   ·rw [if_neg hl2] at r3
    rw [p3]
    ~hs.uq i j hi2 hj2 hij hj2 (p3.symm.trans (e.trans r3))
 ·have hfe:∀ n,itF fs' (n+1) (f:Int) = -1:=λn=>by
   rw [QbV hf',hp1 hf']
   ~Xz n rfl
  have key:∀ n x,(x = -1\/∃ k:Nat,x=(k:Int)/\k<s.fs.length/\k≠f)->itF s.fs n x = -1->itF fs' (n+1) x = -1:=by
   intro n
   induction n with
   | zero =>
    intro x _ h
    ~Xz 1 h
   | succ n ih =>
    intro x hx h
    rcases hx with hx | ⟨k,rfl,hk,hkf⟩
    ·~Xz _ hx
    ·have hk':k<fs'.length:=by omega
     ð⟨_,_,p3⟩:=hp k hk hk' hkf
     rw [QbV hk] at h
     rw [QbV hk',p3]
     by_cases hl:lo=some k
     ·rw [if_pos hl];~hfe n
     ·rw [if_neg hl]
      &ih _ ?_ h
      have hr:=hnx k hk
      by_cases hm:s.fs[k].nx = -1
      ·~.inl hm
      ·&.inr ⟨s.fs[k].nx.toNat,Oo,Oo,λe=>nf k hk Oo⟩
  show itF fs' (fs'.length+1) i = -1
  rw [hlen]
  have hi2:i<s.fs.length:=by have:i<fs'.length:=hi;omega
  by_cases hif:i=f
  ·subst hif;~hfe _
  ·~key _ _ (.inr ⟨i,rfl,hi2,hif⟩) (end_len hs hi2)
def Chn(fs:List Fe):List Nat->Prop
 | []=>True
 | f :: l=>∃ h:f<fs.length,fs[f].nx=(match l with | []=>-1 | g :: _=>(g:Int))/\Chn fs l
theorem Chn.lt{fs:List Fe}:∀ {l:List Nat},Chn fs l->∀ k∈l,k<fs.length
 | [],_,k,hk=>by cases hk
 | f :: l,h,k,hk=>by
  ð⟨h1,_,h3⟩:=h
  rcases Wt.1 hk with rfl | hk
  ·~h1
  ·~h3.lt k hk
theorem Chn.it{fs:List Fe}:∀ {l:List Nat} {f:Nat},Chn fs (f :: l)->∀ j,itF fs j (f:Int)=match (f :: l)[j]? with | some k=>(k:Int) | none=>-1
 | l,f,_,0=>rfl
 | [],f,h,j+1=>by
  ð⟨h1,h2,_⟩:=h
  rw [QbV h1,h2]
  simp only [V5,List.getElem?_nil]
  ~Xz j rfl
 | g :: l,f,h,j+1=>by
  ð⟨h1,h2,h3⟩:=h
  rw [QbV h1,h2]
  show itF fs j (g:Int)=_
  rw [h3.it j,V5]
theorem Chn.congr{fs fs':List Fe}(hlen:fs'.length=fs.length):∀ {l:List Nat},Chn fs l->(∀ k∈l,∀ (h:k<fs.length) (h':k<fs'.length),fs'[k].nx=fs[k].nx)->Chn fs' l
 | [],_,_=>trivial
 | f :: l,h,hk=>by
  ð⟨h1,h2,h3⟩:=h
  &⟨Oo,?_,h3.congr hlen λk hkl=>hk k (Wm _ hkl)⟩
  rw [hk f Os h1 Oo]
  ~h2
theorem Chn.snoc{fs fs':List Fe}{f:Nat}(hlen:fs'.length=fs.length)(hf:f<fs.length)(hff:∀ h:f<fs'.length,fs'[f].nx = -1):∀ {l:List Nat},Chn fs l->l.Nodup->f∉l ->
  (∀ k∈l,∀ (h:k<fs.length) (h':k<fs'.length),fs'[k].nx=if l.getLast?=some k then (f:Int) else fs[k].nx)->Chn fs' (l++[f])
 | [],_,_,_,_=>⟨Oo,hff _,trivial⟩
 | g :: l,h,hn,hfl,hk=>by
  ð⟨h1,h2,h3⟩:=h
  have hn2:=Uu.1 hn
  have hx:=hk g Os h1 Oo
  &⟨Oo,?_,h3.snoc hlen hf hff hn2.2 (λh=>hfl (Wm _ h)) λk hkl a b=>?_⟩
  ·rw [hx]
   cases l with
   | nil=>rw [if_pos Os];rfl
   | cons g' l =>
    have:¬ (g :: g' :: l).getLast?=some g:=λe=>by
     rw [Yc] at e
     ~hn2.1 (V6 e)
    rw [if_neg this,h2]
    rfl
  ·rw [hk k (Wm _ hkl) a b]
   cases l with
   | nil=>cases hkl
   | cons g' l=>rw [Yc]
theorem Chn.last{fs:List Fe}:∀ {l:List Nat},Chn fs l->∀ k,l.getLast?=some k->∃ h:k<fs.length,fs[k].nx = -1
 | [],_,k,e=>by cases e
 | [f],h,k,e=>by
  ð⟨h1,h2,_⟩:=h
  simp only [List.getLast?_singleton,Wx] at e
  subst e
  ~⟨h1,h2⟩
 | f :: g :: l,h,k,e=>by
  ð⟨_,_,h3⟩:=h
  rw [Yc] at e
  ~h3.last k e
def isFr(fs:List Fe)(k:Nat):Bool:=match fs[k]? with | some f=>decide (f.ow = -1) | none=>false
theorem QbW{fs:List Fe}{k:Nat}(h:k<fs.length):isFr fs k=decide (fs[k].ow = -1):=by unfold isFr;rw [Wa h]
theorem isFr_lt{fs:List Fe}{k:Nat}(h:isFr fs k=true):∃ h':k<fs.length,fs[k].ow = -1:=by
 rcases Ws k fs.length with h' | h'
 ·rw [QbW h'] at h
  ~⟨h',of_decide_eq_true h⟩
 ·unfold isFr at h;rw [Wg h'] at h;cases h
def Qk(fs:List Fe):List Nat:=(List.range fs.length).filter (isFr fs)
def QeN(fs:List Fe)(k:Nat):List Int:=((List.range k).filter (isFr fs)).map λ(k:Nat)=>(k:Int)
theorem Qgf(fs:List Fe)(k:Nat):QeN fs (k+1)=if isFr fs k=true then QeN fs k++[(k:Int)] else QeN fs k:=by
 unfold QeN
 rw [Ua,VA,WH]
 by_cases h:isFr fs k=true
 ·rw [if_pos h];simp [h]
 ·rw [if_neg h];simp [h]
theorem freeTo_len(fs:List Fe)(k:Nat):(QeN fs k).length<=k:=by
 unfold QeN
 rw [Wb]
 ~Ug (W8 _ _) Os
theorem free_ok(s:Sp)(h:s.fs.length<=65536):ZB s=some ((Qk s.fs).map λ(k:Nat)=>(k:Int)):=by
 unfold ZB
 &Qdv (a:=QeN s.fs s.fs.length) ?_ rfl
 &Qfq (λk=>(QeN s.fs k,(k:Int))) s.fs.length (λj hj=>?_) ?_
 ·dsimp only
  rw [if_pos Oo,Qgp hj]
  simp only [WQ]
  have hl:=freeTo_len s.fs j
  have e1:w64 ((j:Int)+1)=((j+1:Nat):Int):=Qd Oo
  by_cases hf:s.fs[j].ow = -1
  ·rw [if_pos hf,if_pos (by simp only [WX,VH];omega),Qgf,if_pos (by rw [QbW hj];~decide_eq_true hf),e1]
  ·rw [if_neg hf,Qgf,if_neg (by rw [QbW hj];simpa using hf),e1]
 ·dsimp only
  rw [if_neg Oo]
def frF(fs:List Fe):Option Nat:=(Qk fs).head?
theorem filter_range{p:Nat->Bool}{n f:Nat}(hf:f<n)(hp:p f=true)(hm:∀ k,k<f->p k=false):((List.range n).filter p).head?=some f:=by
 obtain ⟨d,rfl⟩:∃ d,n=f+(d+1):=⟨n-f-1,Oo⟩
 rw [List.range_add,VA]
 have h0:(List.range f).filter p=[]:=YP.2 λk hk=>by rw [hm k (Wz.1 hk)];simp
 rw [h0,VV,List.range_succ_eq_map,Vg,VW,Yd hp]
 rfl
theorem Qfw{fs:List Fe}{f:Nat}(h:frF fs=some f):∃ h':f<fs.length,fs[f].ow = -1:=by
 unfold frF Qk at h
 have:=WI.1 (List.mem_of_head? h)
 ~isFr_lt this.2
theorem frF_first{fs:List Fe}{f:Nat}(h:frF fs=some f):∀ k (hk:k<fs.length),k<f->¬ fs[k].ow = -1:=λk hk hkf e=>by
 ð⟨g,hg,hm⟩:=least_nat (p:=λj=>isFr fs j=true) k (by rw [QbW hk];~decide_eq_true e)
 have hgl:=(isFr_lt hg).1
 have:=filter_range (p:=isFr fs) (n:=fs.length) hgl hg λj hj=>by
  cases hx:isFr fs j with
  | false=>rfl
  | true=>have:=hm j hx;omega
 have h2:frF fs=some g:=this
 rw [h2] at h
 injection h with h
 have:=hm k (by rw [QbW hk];~decide_eq_true e)
 omega
theorem frF_of{fs:List Fe}(h:Qk fs≠[]):∃ f,frF fs=some f:=by
 unfold frF
 cases hx:Qk fs with
 | nil=>~absurd hx h
 | cons f l=>~⟨f,rfl⟩
theorem lift_spec(s:Sp)(q b:Int){f:Nat}(hf:frF s.fs=some f)(hl:s.fs.length<=65536)(hq:0<=q/\q<=4294967295)(hb:0<=b/\b<4):Jz s q b=some ((f:Int),s.fs.set f ⟨q,b*4294967296+q,-1⟩):=by
 ð⟨h1,h2⟩:=Qfw hf
 have h3:=frF_first hf
 unfold Jz
 &bndR_eqR ?_
 &Qfq (λk=>(k:Int)) f (λj hj=>?_) ?_
 ·rw [if_pos Oo,Qgp (show j<s.fs.length by omega)]
  simp only [WQ]
  rw [if_neg (h3 j Oo hj),show w64 ((j:Int)+1)=((j+1:Nat):Int) from Qd Oo]
 ·rw [if_pos Oo,Qgp h1]
  simp only [WQ]
  rw [if_pos h2,Qd (n:=b*4294967296) Oo,Qd (n:=b*4294967296+q) Oo,Wd]
structure IncC(fs:List Fe)(i:Inc)(fr:List Nat):Prop where
 sq:0<=i.seq/\i.seq<=4294967295
 bl:0<=i.belt/\i.belt<4
 ch:Chn fs fr
 nd:fr.Nodup
 ow:∀ k (h:k<fs.length),fs[k].ow=i.seq<->k∈fr
 st:∀ k (h:k<fs.length),k∈fr->fs[k].st=i.belt*4294967296+i.seq
 first:i.first=match fr.head? with | none=>-1 | some f=>(f:Int)
 last:i.last=match fr.getLast? with | none=>-1 | some f=>(f:Int)
def lnk(fs:List Fe)(i:Inc)(f:Nat):List Fe×Inc :=
 let fs1:=fs.set f ⟨i.seq,i.belt*4294967296+i.seq,-1⟩
 if i.first = -1 then (fs1,⟨i.seq,i.belt,f,f,i.words⟩)
 else (match fs1[i.last.toNat]? with | some g=>fs1.set i.last.toNat ⟨g.ow,g.st,f⟩ | none=>fs1,⟨i.seq,i.belt,i.first,f,i.words⟩)
theorem lnk_len(fs:List Fe)(i:Inc)(f:Nat):(lnk fs i f).1.length=fs.length:=by
 unfold lnk
 dsimp only
 split
 ·simp
 ·split <;> simp
theorem lnk_at{s:Sp}(hs:ZL s){i:Inc}{fr:List Nat}(hc:IncC s.fs i fr){f:Nat}(hf:f<s.fs.length)(h0:s.fs[f].ow = -1) :
  (∀ h:f<(lnk s.fs i f).1.length,(lnk s.fs i f).1[f]=⟨i.seq,i.belt*4294967296+i.seq,-1⟩) /\
  ∀ k (h:k<s.fs.length) (h':k<(lnk s.fs i f).1.length),k≠f->(lnk s.fs i f).1[k].ow=s.fs[k].ow/\(lnk s.fs i f).1[k].st=s.fs[k].st/\(lnk s.fs i f).1[k].nx=if fr.getLast?=some k then (f:Int) else s.fs[k].nx:=by
 have hfr:f∉fr:=λh=>by have:=(hc.ow f hf).2 h;have:=hc.sq.1;omega
 cases hg:fr.getLast? with
 | none =>
  have hn:fr=[]:=YD.1 hg
  have h1:i.first = -1:=by rw [hc.first,hn];rfl
  unfold lnk
  simp only [h1,if_true]
  &⟨λh=>by simp,λk h h' hk=>?_⟩
  rw [VO (λe=>hk e.symm)]
  ~⟨rfl,rfl,Os⟩
 | some l =>
  have hlm:l∈fr:=V6 hg
  have hll:=hc.ch.lt l hlm
  have hlf:l≠f:=λe=>hfr (e▸hlm)
  have hla:i.last=(l:Int):=by rw [hc.last,hg]
  have h1:¬ i.first = -1:=by
   rw [hc.first]
   cases hh:fr.head? with
   | none=>rw [YQ] at hh;rw [hh] at hg;cases hg
   | some x=>dsimp only;omega
  have ht:i.last.toNat=l:=by rw [hla];rfl
  have hv:(lnk s.fs i f).1=(s.fs.set f ⟨i.seq,i.belt*4294967296+i.seq,-1⟩).set l ⟨s.fs[l].ow,s.fs[l].st,f⟩:=by
   unfold lnk
   dsimp only
   rw [if_neg h1,ht]
   dsimp only
   rw [WC (λe=>hlf e.symm),Wa hll]
  simp only [hv]
  &⟨λh=>by rw [VO hlf];simp,λk h h' hk=>?_⟩
  by_cases hkl:l=k
  ·subst hkl
   simp
  ·have:¬ some l=some k:=λe=>hkl (by injection e)
   rw [VO hkl,VO (λe=>hk e.symm),if_neg this]
   ~⟨rfl,rfl,rfl⟩
theorem stp_of{i:Inc}(h1:0<=i.seq/\i.seq<=4294967295)(h2:0<=i.belt/\i.belt<4):Stp i.seq (i.belt*4294967296+i.seq):=⟨h1.1,h1.2,i.belt,h2.1,h2.2,Oo⟩
theorem lnk_ok{s:Sp}(hs:ZL s){i:Inc}{fr:List Nat}(hc:IncC s.fs i fr){f:Nat}(hf:f<s.fs.length)(h0:s.fs[f].ow = -1) :
  ZL ⟨s.sh,s.ws,(lnk s.fs i f).1⟩/\IncC (lnk s.fs i f).1 (lnk s.fs i f).2 (fr++[f]):=by
 ð⟨p1,p2⟩:=lnk_at hs hc hf h0
 have hlen:=lnk_len s.fs i f
 have hfr:f∉fr:=λh=>by have:=(hc.ow f hf).2 h;have:=hc.sq.1;omega
 have hq:=hc.sq.1
 have e2:(lnk s.fs i f).2.seq=i.seq/\(lnk s.fs i f).2.belt=i.belt/\(lnk s.fs i f).2.last=f/\(lnk s.fs i f).2.first=if i.first = -1 then (f:Int) else i.first:=by
  unfold lnk
  dsimp only
  split <;> ~⟨rfl,rfl,rfl,rfl⟩
 ð⟨e3,e4,e5,e6⟩:=e2
 &⟨sp_link hs hf h0 (stp_of hc.sq hc.bl) fr.getLast? (λl hl=>?_) hlen p1 p2,?_⟩
 ·ð⟨g1,g2⟩:=hc.ch.last l hl
  have hm:=V6 hl
  ~⟨g1,g2,(hc.ow l g1).2 hm,hc.st l g1 hm⟩
 ·&⟨by rw [e3];~hc.sq,by rw [e4];~hc.bl,?_,?_,λk hk=>?_,λk hk hkm=>?_,?_,?_⟩
  ·~hc.ch.snoc hlen hf (λh=>by rw [p1 h]) hc.nd hfr λk hk a b=>(p2 k a b (λe=>hfr (e▸hk))).2.2
  ·rw [Um]
   ~⟨hc.nd,Os,λa ha b hb=>by rw [Wo] at hb;subst hb;~λe=>hfr (e▸ha)⟩
  ·rw [e3,Wn,Wo]
   by_cases hkf:k=f
   ·subst hkf
    rw [p1 hk]
    simp
   ·rw [(p2 k Oo hk hkf).1,hc.ow k Oo]
    simp [hkf]
  ·rw [e3,e4]
   by_cases hkf:k=f
   ·subst hkf
    rw [p1 hk]
   ·rw [(p2 k Oo hk hkf).2.1]
    &hc.st k Oo ?_
    rcases Wn.1 hkm with h | h
    ·~h
    ·rw [Wo] at h;~absurd h hkf
  ·rw [e6]
   cases fr with
   | nil =>
    have h1:i.first = -1:=hc.first
    rw [if_pos h1]
    rfl
   | cons g l =>
    have h1:i.first=(g:Int):=hc.first
    rw [if_neg Oo,h1]
    rfl
  ·rw [e5,List.getLast?_append]
   simp
theorem lnk_other{s:Sp}(hs:ZL s){i:Inc}{fr:List Nat}(hc:IncC s.fs i fr){f:Nat}(hf:f<s.fs.length)(h0:s.fs[f].ow = -1){k:Nat}(hk:k<s.fs.length)(h':k<(lnk s.fs i f).1.length)(hkf:k≠f)(hkr:k∉fr):(lnk s.fs i f).1[k]=s.fs[k]:=by
 ð⟨a,b,c⟩:=(lnk_at hs hc hf h0).2 k hk h' hkf
 rw [if_neg (λe=>hkr (V6 e))] at c
 generalize (lnk s.fs i f).1[k]=x at *
 generalize s.fs[k]=y at *
 cases x
 cases y
 simp only at a b c
 subst a;subst b;subst c
 rfl
theorem lnk_free{s:Sp}(hs:ZL s){i:Inc}{fr:List Nat}(hc:IncC s.fs i fr){f:Nat}(hf:frF s.fs=some f):Qk (lnk s.fs i f).1=(Qk s.fs).tail:=by
 ð⟨hfl,h0⟩:=Qfw hf
 ð⟨p1,p2⟩:=lnk_at hs hc hfl h0
 have hlen:=lnk_len s.fs i f
 have hq:=hc.sq.1
 have e1:∀ k∈List.range s.fs.length,isFr (lnk s.fs i f).1 k=(isFr s.fs k && !decide (k=f)):=λk hk=>by
  have hk:=Wz.1 hk
  rw [QbW Oo,QbW hk]
  by_cases hkf:k=f
  ·subst hkf
   rw [p1 Oo]
   have:¬ i.seq = -1:=by omega
   simp [this]
  ·rw [(p2 k hk Oo hkf).1]
   simp [hkf]
 have e2:Qk (lnk s.fs i f).1=(Qk s.fs).filter λk=>!decide (k=f):=by
  unfold Qk
  rw [hlen,List.filter_filter]
  &UT λk hk=>?_
  rw [e1 k hk,Bool.and_comm]
 have hnd:(Qk s.fs).Nodup:=Yr _ YK
 unfold frF at hf
 cases hx:Qk s.fs with
 | nil=>rw [hx] at hf;cases hf
 | cons g l =>
  rw [hx] at hf hnd
  injection hf with hf
  subst hf
  rw [e2,hx,List.tail_cons,Ye Os]
  &VY.2 λk hk=>?_
  have:=(Uu.1 hnd).1
  have hne:k≠g:=λe=>this (e▸hk)
  simp [hne]
def Jl:Nat->List Fe->Inc->List Fe×Inc
 | 0,fs,i=>(fs,i)
 | n+1,fs,i=>match frF fs with
  | none=>(fs,i)
  | some f=>Jl n (lnk fs i f).1 (lnk fs i f).2
structure GrowOk(s:Sp)(i:Inc)(fr:List Nat)(n:Nat)(fs':List Fe)(i':Inc):Prop where
 sp:ZL ⟨s.sh,s.ws,fs'⟩
 len:fs'.length=s.fs.length
 inc:IncC fs' i' (fr++(Qk s.fs).take n)
 free:Qk fs'=(Qk s.fs).drop n
 words:i'.words=i.words/\i'.seq=i.seq/\i'.belt=i.belt
 other:∀ k (h:k<s.fs.length) (h':k<fs'.length),k∉fr->k∉(Qk s.fs).take n->fs'[k]=s.fs[k]
theorem Qfv:∀ (n:Nat) {s:Sp} {i:Inc} {fr:List Nat},ZL s->IncC s.fs i fr->n<=(Qk s.fs).length->GrowOk s i fr n (Jl n s.fs i).1 (Jl n s.fs i).2
 | 0,s,i,fr,hs,hc,_=>⟨hs,rfl,by simpa [Jl] using hc,by simp [Jl],⟨rfl,rfl,rfl⟩,λ_ _ _ _ _=>rfl⟩
 | n+1,s,i,fr,hs,hc,hn=>by
  ð⟨f,hf⟩:=frF_of (fs:=s.fs) (λe=>by rw [e] at hn;simp at hn)
  ð⟨hfl,h0⟩:=Qfw hf
  ð⟨k1,k2⟩:=lnk_ok hs hc hfl h0
  have kf:=lnk_free hs hc hf
  have hx:Qk s.fs=f :: (Qk s.fs).tail:=by
   unfold frF at hf
   cases hx:Qk s.fs with
   | nil=>rw [hx] at hf;cases hf
   | cons g l=>rw [hx] at hf;injection hf with hf;subst hf;rfl
  have hw:(lnk s.fs i f).2.words=i.words/\(lnk s.fs i f).2.seq=i.seq/\(lnk s.fs i f).2.belt=i.belt:=by
   unfold lnk
   dsimp only
   split <;> ~⟨rfl,rfl,rfl⟩
  have g:=Qfv n (s:=⟨s.sh,s.ws,(lnk s.fs i f).1⟩) k1 k2 (by show n<=(Qk (lnk s.fs i f).1).length;rw [kf,List.length_tail];omega)
  have e:Jl (n+1) s.fs i=Jl n (lnk s.fs i f).1 (lnk s.fs i f).2:=by
   show (match frF s.fs with | none=>(s.fs,i) | some f=>Jl n (lnk s.fs i f).1 (lnk s.fs i f).2)=_
   rw [hf]
  rw [e]
  have ht:(Qk s.fs).take (n+1)=f :: (Qk s.fs).tail.take n:=by rw [hx];rfl
  &⟨g.sp,g.len.trans (lnk_len _ _ _),?_,?_,⟨g.words.1.trans hw.1,g.words.2.1.trans hw.2.1,g.words.2.2.trans hw.2.2⟩,λk h h' hk hk2=>?_⟩
  ·have:=g.inc
   dsimp only at this
   rw [kf,WP] at this
   rw [ht]
   ~this
  ·have:=g.free
   dsimp only at this
   rw [this,kf,hx]
   rfl
  ·rw [ht,Wt,not_or] at hk2
   have hl:k<(lnk s.fs i f).1.length:=by rw [lnk_len];~h
   rw [<- lnk_other hs hc hfl h0 h hl hk2.1 hk]
   &g.other k hl h' ?_ ?_
   ·rw [Wn,Wo,not_or]
    ~⟨hk,hk2.1⟩
   ·dsimp only
    rw [kf]
    ~hk2.2
def adr(z:Nat)(fr:List Nat)(p:Nat):Nat:=(fr[p/z]?).getD 0*z+p%z
theorem Chn.drop{fs:List Fe}:∀ (n:Nat) {l:List Nat},Chn fs l->Chn fs (l.drop n)
 | 0,_,h=>h
 | n+1,[],h=>trivial
 | n+1,f :: l,h=>h.2.2.drop n
def Own(fs:List Fe)(fr:List Nat):Prop:=∀ k∈fr,∀ h:k<fs.length,¬ fs[k].ow = -1
theorem IncC.own{fs:List Fe}{i:Inc}{fr:List Nat}(h:IncC fs i fr):Own fs fr:=λk hk hl e=>by
 have:=(h.ow k hl).2 hk
 have:=h.sq.1
 omega
theorem Qdy{z:Nat}(hz:0<z)(fr:List Nat)(p:Nat):adr z fr p/z=(fr[p/z]?).getD 0/\adr z fr p%z=p%z:=by
 unfold adr
 have:=UV p hz
 &⟨?_,?_⟩
 ·rw [Wac,Y1 _ _ hz,UY this,WS]
 ·rw [Wac,Nat.add_mul_mod_self_right,VC this]
theorem Jo{s:Sp}(hs:Qc4 s){fr:List Nat}(hl:∀ k∈fr,k<s.fs.length){p:Nat}(hp:p<fr.length*szS s):adr (szS s) fr p<s.ws.length:=by
 ð⟨g1,g2,g3,g4,g5⟩:=hs.z
 have h1:p/szS s<fr.length:=Vt (by rw [VE];~hp)
 have h2:=hl _ (Wc h1)
 unfold adr
 rw [Wa h1,WE,hs.wl]
 have h3:=UV p (show 0<szS s by omega)
 have h4:(fr[p/szS s]+1)*szS s<=s.fs.length*szS s:=WB _ h2
 rw [Vv] at h4
 omega
theorem div_sub{z p k:Nat}(hz:0<z):(p%z+k)/z+p/z=(p+k)/z/\(p%z+k)%z=(p+k)%z:=by
 have h:=UJ p z
 have e:p+k=(p%z+k)+z*(p/z):=by omega
 &⟨?_,?_⟩
 ·rw [e,Nat.add_mul_div_left _ _ hz]
 ·rw [e,Nat.add_mul_mod_self_left]
theorem go_adr{s:Sp}(hs:Qc4 s){fr:List Nat}(hc:Chn s.fs fr)(ho:Own s.fs fr){p k:Nat}(hp:p<fr.length*szS s) :
  GoR s ((adr (szS s) fr p:Nat):Int) (k:Int)=if p+k<fr.length*szS s then (((adr (szS s) fr (p+k):Nat):Int),(0:Int)) else (0,2):=by
 ð⟨g1,g2,g3,g4,g5⟩:=hs.z
 have hz:0<szS s:=by omega
 have h1:p/szS s<fr.length:=Vt (by rw [VE];~hp)
 have hlt:=Jo hs hc.lt hp
 ð⟨d1,d2⟩:=Qdy hz fr p
 rw [Wa h1,WE] at d1
 have hf:=hc.lt _ (Wc h1)
 rw [GoR_in Oo Oo Oo,<- UF,<- Int.natCast_emod,d1,d2,ownF_at hf,if_neg (ho _ (Wc h1) hf)]
 ð⟨q1,q2⟩:=div_sub (p:=p) (k:=k) hz
 have hd:fr.drop (p/szS s)=fr[p/szS s] :: fr.drop (p/szS s+1):=Vk h1
 have hc2:=hc.drop (p/szS s)
 rw [hd] at hc2
 have hit:=hc2.it ((p%szS s+k)/szS s)
 rw [<- hd,W2,Wac (p/szS s),q1] at hit
 unfold adv
 rw [show ((p%szS s:Nat):Int)+(k:Int)=((p%szS s+k:Nat):Int) by push_cast;rfl,<- UF,<- Int.natCast_emod,Wd,hit,q2]
 by_cases hpk:p+k<fr.length*szS s
 ·have h2:(p+k)/szS s<fr.length:=Vt (by rw [VE];~hpk)
  rw [if_pos hpk,Wa h2]
  dsimp only
  rw [if_pos (Int.natCast_nonneg _)]
  unfold adr
  rw [Wa h2,WE]
  push_cast
  rfl
 ·have h2:fr.length<=(p+k)/szS s:=by
   rw [Yl hz]
   omega
  rw [if_neg hpk,Wg h2]
  rfl
theorem Qbr{z:Nat}(hz:0<z){fr:List Nat}(hn:fr.Nodup){p q:Nat}(hp:p<fr.length*z)(hq:q<fr.length*z)(e:adr z fr p=adr z fr q):p=q:=by
 have h1:p/z<fr.length:=Vt (by rw [VE];~hp)
 have h2:q/z<fr.length:=Vt (by rw [VE];~hq)
 ð⟨a1,a2⟩:=Qdy hz fr p
 ð⟨b1,b2⟩:=Qdy hz fr q
 rw [e] at a1 a2
 rw [Wa h1,WE] at a1
 rw [Wa h2,WE] at b1
 have h3:fr[p/z]=fr[q/z]:=by rw [<- a1,<- b1]
 have h4:p/z=q/z:=by
  by_cases hne:p/z=q/z
  ·~hne
  ·have hpw:=Wy.1 hn
   rcases U5 hne with h | h
   ·~absurd h3 (hpw _ _ h1 h2 h)
   ·~absurd h3.symm (hpw _ _ h2 h1 h)
 have e1:=UJ p z
 have e2:=UJ q z
 rw [h4] at e1
 omega
theorem QeQ{z:Nat}(hz:0<z){fr fr':List Nat}(hd:∀ k∈fr,k∉fr'){p q:Nat}(hp:p<fr.length*z)(hq:q<fr'.length*z):adr z fr p≠adr z fr' q:=λe=>by
 have h1:p/z<fr.length:=Vt (by rw [VE];~hp)
 have h2:q/z<fr'.length:=Vt (by rw [VE];~hq)
 ð⟨a1,_⟩:=Qdy hz fr p
 ð⟨b1,_⟩:=Qdy hz fr' q
 rw [e] at a1
 rw [Wa h1,WE] at a1
 rw [Wa h2,WE] at b1
 have h3:fr[p/z]=fr'[q/z]:=by rw [<- a1,<- b1]
 ~hd _ (Wc h1) (h3▸Wc h2)
theorem Xg{z:Nat}(hz:0<z){fr l:List Nat}{p:Nat}(hp:p<fr.length*z):adr z (fr++l) p=adr z fr p:=by
 have h1:p/z<fr.length:=Vt (by rw [VE];~hp)
 unfold adr
 rw [WM h1]
theorem sub_len:∀ (l l':List Nat),l.Nodup->(∀ x∈l,x∈l')->l.length<=l'.length
 | [],_,_,_=>WT _
 | x :: l,l',hn,h=>by
  have hx:=h x Os
  have hn2:=Uu.1 hn
  have:=sub_len l (l'.erase x) hn2.2 λy hy=>(List.mem_erase_of_ne (λ(e:y=x)=>hn2.1 (by rw [<- e];~hy))).2 (h y (Wm _ hy))
  rw [List.length_erase_of_mem hx] at this
  have h1:0<l'.length:=List.length_pos_of_mem hx
  rw [WX]
  omega
def isOw(fs:List Fe)(q:Int)(k:Nat):Bool:=match fs[k]? with | some f=>decide (f.ow=q) | none=>false
theorem Qer{fs:List Fe}{q:Int}{k:Nat}(h:k<fs.length):isOw fs q k=decide (fs[k].ow=q):=by unfold isOw;rw [Wa h]
theorem cnO_filter(fs:List Fe)(q:Int):∀ k,k<=fs.length->cnO fs q k=((List.range k).filter (isOw fs q)).length
 | 0,_=>rfl
 | k+1,h=>by
  have ih:=cnO_filter fs q k Oo
  rw [Ua,VA,We]
  by_cases ho:fs[k].ow=q
  ·rw [cnO_t Oo ho,ih]
   have:isOw fs q k=true:=by rw [Qer Oo];~decide_eq_true ho
   simp [this]
  ·rw [cnO_f Oo ho,ih]
   have:isOw fs q k=false:=by rw [Qer Oo];~decide_eq_false ho
   simp [this]
structure QcE(s:Sp)(i:Inc)(fr:List Nat):Prop extends IncC s.fs i fr where
 wd:0<=i.words/\i.words<=s.ws.length
 len:(fr.length:Int)=clN s i.words
theorem Qb2{s:Sp}(hs:Qco s.sh){n:Nat}(hn:n<=1099511627776):clN s (n:Int)=((n+szS s-1)/szS s:Nat):=by
 ð⟨g1,g2,g3,g4,g5⟩:=Jm hs
 unfold clN
 rw [if_neg Oo]
 push_cast [Int.natCast_sub (show 1<=n+szS s by omega)]
 rfl
theorem QdS{n:Nat}{l:List Nat}(hn:l.Nodup)(h:∀ x∈l,x<n):l.length<=n:=QcX n l hn h
theorem QcE.fit{s:Sp}(hs:ZL s){i:Inc}{fr:List Nat}(h:QcE s i fr):FitP s i.seq i.belt i.first i.last i.words:=by
 ð⟨g1,g2,g3,g4,g5⟩:=hs.shp.z
 have hw:=hs.shp.small
 obtain ⟨n,hn⟩:∃ n:Nat,i.words=n:=⟨i.words.toNat,by have:=h.wd.1;omega⟩
 have hl:=h.len
 rw [hn,Qb2 hs.shp.sh (by have:=h.wd.2;omega)] at hl
 &⟨h.sq,h.bl,h.wd,λh0=>?_,λh0=>?_⟩
 ·have h1:fr=[]:=by
   have:n=0:=by omega
   subst this
   rw [WS,UY Oo] at hl
   ~Vp.1 Oo
  rw [h.first,h.last,h1]
  ~⟨rfl,rfl⟩
 ·have h1:0<fr.length:=by
   have:1<=(n+szS s-1)/szS s:=by rw [Yl Oo];omega
   omega
  cases fr with
  | nil=>simp at h1
  | cons f l =>
   have hf:i.first=(f:Int):=h.first
   have hin:=h.ch.lt
   have hcount:cnO s.fs i.seq s.fs.length=(f :: l).length:=by
    rw [cnO_filter _ _ _ (Wl _)]
    &YV (sub_len _ _ (Yr _ YK) λk hk=>?_) (sub_len _ _ h.nd λk hk=>?_)
    ·ð⟨k1,k2⟩:=WI.1 hk
     have k3:=Wz.1 k1
     rw [Qer k3] at k2
     ~(h.ow k k3).1 (of_decide_eq_true k2)
    ·have k3:=hin k hk
     ~WI.2 ⟨Wz.2 k3,by rw [Qer k3];~decide_eq_true ((h.ow k k3).2 hk)⟩
   &⟨(f :: l).length,⟨Os,QdS h.nd hin,?_,λj hj=>?_⟩,⟨Oo,by rw [hf];~hin f Os,?_,?_,by rw [hn,Qb2 hs.shp.sh (by have:=h.wd.2;omega)];~hl,hcount.symm,?_⟩⟩
   ·rw [hf,h.ch.it,Wg (Wl _)]
   ·rw [hf,h.ch.it,Wa hj]
    have:=hin _ (Wc hj)
    dsimp only
    omega
   ·simp only [hf,Wd]
    ~(h.ow f (hin f Os)).2 Os
   ·simp only [hf,Wd]
    ~h.st f (hin f Os) Os
   ·rw [hf,h.ch.it,h.last,YC]
    cases (f :: l)[(f :: l).length-1]? <;> rfl
theorem growN_succ:∀ (n:Nat) (fs:List Fe) (i:Inc),Jl (n+1) fs i=match frF (Jl n fs i).1 with
  | none=>Jl n fs i
  | some f=>lnk (Jl n fs i).1 (Jl n fs i).2 f
 | 0,fs,i=>by
  show (match frF fs with | none=>(fs,i) | some f=>Jl 0 (lnk fs i f).1 (lnk fs i f).2)=(match frF fs with | none=>(fs,i) | some f=>lnk fs i f)
  cases frF fs <;> rfl
 | n+1,fs,i=>by
  have e:∀ m,Jl (m+1) fs i=match frF fs with | none=>(fs,i) | some f=>Jl m (lnk fs i f).1 (lnk fs i f).2:=λ_=>rfl
  rw [e (n+1),e n]
  cases h:frF fs with
  | none=>dsimp only;rw [h]
  | some f=>dsimp only;~growN_succ n _ _
def exN(s:Sp)(i:Inc)(n:Int):Nat:=(clN s (i.words+n)-clN s i.words).toNat
def grw(s:Sp)(i:Inc)(n:Int):Inc:=let j:=(Jl (exN s i n) s.fs i).2;⟨j.seq,j.belt,j.first,j.last,i.words+n⟩
def Zd(s:Sp)(i:Inc)(n:Int):List Fe:=(Jl (exN s i n) s.fs i).1
theorem exN_ok{s:Sp}(hs:Qc4 s){i:Inc}{n:Int}(h0:0<=i.words/\i.words<=s.ws.length)(hn:1<=n/\n<=48):clN s (i.words+n)-clN s i.words=exN s i n/\exN s i n<=7:=by
 ð⟨g1,g2,g3,g4,g5⟩:=hs.z
 have hw:=hs.small
 obtain ⟨a,ha⟩:∃ a:Nat,i.words=a:=⟨i.words.toNat,Oo⟩
 obtain ⟨b,rfl⟩:∃ b:Nat,n=b:=⟨n.toNat,Oo⟩
 unfold exN
 rw [ha,show (a:Int)+(b:Int)=((a+b:Nat):Int) by push_cast;rfl,Qb2 hs.sh Oo,Qb2 hs.sh Oo]
 have h1:(a+szS s-1)/szS s<=(a+b+szS s-1)/szS s:=Nat.div_le_div_right Oo
 have h2:(a+b+szS s-1)/szS s<=(a+szS s-1)/szS s+7:=by
  have:a+b+szS s-1<=(a+szS s-1)+6*szS s:=by omega
  have h3:=Nat.div_le_div_right (c:=szS s) this
  rw [Y1 _ _ Oo] at h3
  omega
 omega
theorem J7{s:Sp}(hs:Qc4 s){i:Inc}{fr:List Nat}(h:QcE s i fr){n:Int}(hn:1<=n/\n<=48):i.words+n<=((fr.length+exN s i n)*szS s:Nat)/\0<fr.length+exN s i n/\((fr.length+exN s i n:Nat):Int)=clN s (i.words+n):=by
 ð⟨g1,g2,g3,g4,g5⟩:=hs.z
 have hw:=hs.small
 ð⟨e1,e2⟩:=exN_ok hs h.wd hn
 have hl:=h.len
 have e3:((fr.length+exN s i n:Nat):Int)=clN s (i.words+n):=by push_cast;omega
 obtain ⟨a,ha⟩:∃ a:Nat,i.words+n=a:=⟨(i.words+n).toNat,by have:=h.wd.1;omega⟩
 have e4:=e3
 rw [ha,Qb2 hs.sh (by have:=h.wd.2;omega)] at e4
 have e5:fr.length+exN s i n=(a+szS s-1)/szS s:=by omega
 have e6:a<=(a+szS s-1)/szS s*szS s:=by
  have h1:=UJ (a+szS s-1) (szS s)
  have h2:=UV (a+szS s-1) (show 0<szS s by omega)
  rw [VE] at h1
  omega
 &⟨by rw [ha,e5];omega,?_,e3⟩
 rw [e5]
 have:1<=(a+szS s-1)/szS s:=by rw [Yl Oo];have:=h.wd.1;omega
 omega
structure GrwOk(s:Sp)(i:Inc)(fr:List Nat)(n:Int):Prop where
 sp:ZL ⟨s.sh,s.ws,Zd s i n⟩
 len:(Zd s i n).length=s.fs.length
 inc:QcE ⟨s.sh,s.ws,Zd s i n⟩ (grw s i n) (fr++(Qk s.fs).take (exN s i n))
 free:Qk (Zd s i n)=(Qk s.fs).drop (exN s i n)
 same:(grw s i n).words=i.words+n/\(grw s i n).seq=i.seq/\(grw s i n).belt=i.belt
 other:∀ k (h:k<s.fs.length) (h':k<(Zd s i n).length),k∉fr->k∉(Qk s.fs).take (exN s i n)->(Zd s i n)[k]=s.fs[k]
theorem Qge{s:Sp}(hs:ZL s){i:Inc}{fr:List Nat}(h:QcE s i fr){n:Int}(hn:1<=n/\n<=48)(hf:exN s i n<=(Qk s.fs).length):GrwOk s i fr n:=by
 have g:=Qfv (exN s i n) hs h.toIncC hf
 ð⟨w1,w2,w3⟩:=J7 hs.shp h hn
 have hc:IncC (Zd s i n) (grw s i n) (fr++(Qk s.fs).take (exN s i n)):=by
  have:=g.inc
  ~⟨this.sq,this.bl,this.ch,this.nd,this.ow,this.st,this.first,this.last⟩
 have hlen:(fr++(Qk s.fs).take (exN s i n)).length=fr.length+exN s i n:=by
  rw [We,Wi,W7 hf]
 &⟨g.sp,g.len,{ hc with wd:=⟨by have:=h.wd.1;show 0<=i.words+n;omega,?_⟩,len:=?_ },g.free,⟨rfl,g.words.2.1,g.words.2.2⟩,g.other⟩
 ·show i.words+n<=s.ws.length
  have h1:=QdS hc.nd hc.ch.lt
  rw [hlen,show (Zd s i n).length=s.fs.length from g.len] at h1
  have h2:(fr.length+exN s i n)*szS s<=s.fs.length*szS s:=WB _ h1
  rw [hs.shp.wl]
  omega
 ·rw [hlen]
  ~w3
theorem GrwOk.at{s:Sp}{i:Inc}{fr:List Nat}{n:Int}(h:GrwOk s i fr n)(hs:ZL s)(hi:QcE s i fr)(hn:1<=n/\n<=48)(hf:exN s i n<=(Qk s.fs).length) :
  GoR ⟨s.sh,s.ws,Zd s i n⟩ ((grw s i n).first*2^s.sh.toNat) i.words=(((adr (szS s) (fr++(Qk s.fs).take (exN s i n)) i.words.toNat:Nat):Int),0):=by
 ð⟨g1,g2,g3,g4,g5⟩:=hs.shp.z
 ð⟨w1,w2,w3⟩:=J7 hs.shp hi hn
 have hlen:(fr++(Qk s.fs).take (exN s i n)).length=fr.length+exN s i n:=by
  rw [We,Wi,W7 hf]
 obtain ⟨a,ha⟩:∃ a:Nat,i.words=a:=⟨i.words.toNat,by have:=hi.wd.1;omega⟩
 have hf0:=h.inc.first
 have hch:=h.inc.ch
 have hown:=h.inc.own
 generalize hF:fr++(Qk s.fs).take (exN s i n)=F at *
 cases F with
 | nil=>simp at hlen;omega
 | cons f l =>
  have e0:adr (szS s) (f :: l) 0=f*szS s:=by
   unfold adr
   simp
  have hgo:=go_adr (s:=⟨s.sh,s.ws,Zd s i n⟩) h.sp.shp hch hown (p:=0) (k:=a) (by show 0<(f :: l).length*szS s;rw [hlen];~Nat.mul_pos w2 Oo)
  rw [show szS (⟨s.sh,s.ws,Zd s i n⟩:Sp)=szS s from rfl,e0] at hgo
  rw [hf0,g5,ha]
  show GoR _ ((f:Int)*(szS s:Int)) (a:Int)=_
  rw [show (f:Int)*(szS s:Int)=((f*szS s:Nat):Int) by push_cast;rfl,hgo,if_pos (by rw [hlen];omega),WS]
  rfl
theorem grow_spec{s:Sp}(hs:ZL s){i:Inc}{fr:List Nat}(hi:QcE s i fr){n:Int}(hn:1<=n/\n<=48) :
  XN s i n=some (if exN s i n<=(Qk s.fs).length then (grw s i n,((adr (szS s) (fr++(Qk s.fs).take (exN s i n)) i.words.toNat:Nat):Int),0,Zd s i n) else (⟨0,0,0,0,0⟩,0,4,s.fs)):=by
 ð⟨g1,g2,g3,g4,g5⟩:=hs.shp.z
 have hw:=hs.shp.small
 have h64:=hs.shp.hi
 ð⟨e1,e2⟩:=exN_ok hs.shp hi.wd hn
 have hwd:=hi.wd
 unfold XN
 have x1:Z5 s i n=some (exN s i n:Int):=by
  rw [extra_c hs.shp.sh (by unfold I64;omega) (by unfold I64;omega),e1]
 &Qdv x1 ?_
 &Qdv (free_ok s Oo) ?_
 rw [Wb]
 by_cases hf:exN s i n<=(Qk s.fs).length
 ·rw [if_neg Oo]
  have gk:=Qge hs hi hn hf
  have lp:Qh (λ(s8:List Fe×Inc×Int) =>
    if 0<s8.2.2 then
     ((Jz (Sp.mk s.sh s.ws s8.1) s8.2.1.seq s8.2.1.belt).bind λv13 =>
      if v13.2.length=s8.1.length then
       if s8.2.1.first=(-1) then (some (.go ((v13.2,Inc.mk s8.2.1.seq s8.2.1.belt v13.1 v13.1 s8.2.1.words,w64 (s8.2.2-1)))))
       else (at_ v13.2 s8.2.1.last).bind λv16=>some (.go ((v13.2.set (Int.toNat s8.2.1.last) (Fe.mk v16.ow v16.st v13.1),Inc.mk s8.2.1.seq s8.2.1.belt s8.2.1.first v13.1 s8.2.1.words,w64 (s8.2.2-1))))
      else none)
    else some (.out ((s8.1,s8.2.1)))) (s.fs,i,(exN s i n:Int))=some (Zd s i n,(Jl (exN s i n) s.fs i).2):=by
   &Qfq (σ:=List Fe×Inc×Int) (λj=>((Jl j s.fs i).1,(Jl j s.fs i).2,((exN s i n:Int)-(j:Int)))) (exN s i n) (λj hj=>?_) ?_
   ·have gj:=Qfv j hs hi.toIncC Oo
    have hfj:Qk (Jl j s.fs i).1≠[]:=λe=>by
     have:=congrArg List.length (gj.free.symm.trans e)
     rw [Ww] at this
     simp at this
     omega
    ð⟨f,hff⟩:=frF_of hfj
    ð⟨hfl,h0⟩:=Qfw hff
    have hsq:=gj.inc.sq
    have hbl:=gj.inc.bl
    have hl:=lift_spec ⟨s.sh,s.ws,(Jl j s.fs i).1⟩ (Jl j s.fs i).2.seq (Jl j s.fs i).2.belt hff (by show (Jl j s.fs i).1.length<=_;rw [gj.len];omega) hsq hbl
    have hsucc:=growN_succ j s.fs i
    rw [hff] at hsucc
    dsimp only at hsucc hl ⊢
    rw [if_pos Oo,hl]
    simp only [WQ]
    rw [if_pos Os,hsucc,show w64 ((exN s i n:Int)-(j:Int)-1)=(exN s i n:Int)-((j+1:Nat):Int) from by rw [Qd Oo];push_cast;omega]
    generalize (Jl j s.fs i).1=fs at *
    generalize hI:(Jl j s.fs i).2=I at *
    unfold lnk
    dsimp only
    by_cases h1:I.first = -1
    ·rw [if_pos h1,if_pos h1]
    ·rw [if_neg h1,if_neg h1]
     have hlast:=gj.inc.last
     cases hg:(fr++(Qk s.fs).take j).getLast? with
     | none =>
      have hn0:=YD.1 hg
      ~absurd (by rw [gj.inc.first,hn0];rfl) h1
     | some l =>
      rw [hg] at hlast
      dsimp only at hlast
      have hll:=gj.inc.ch.lt l (V6 hg)
      have hlt:I.last.toNat<(fs.set f ⟨I.seq,I.belt*4294967296+I.seq,-1⟩).length:=by rw [Wv,hlast];~hll
      rw [at_int (by rw [hlast];omega) hlt,Wa hlt]
      rfl
   ·dsimp only
    rw [if_neg Oo]
    rfl
  &Qdv (a:=(Zd s i n,(Jl (exN s i n) s.fs i).2)) lp ?_
  dsimp only
  have hwu:wu s.sh=s.sh:=Xv Oo
  rw [hwu,if_pos g1]
  have hsp:=gk.sp
  have hfst:0<=(grw s i n).first/\(grw s i n).first<s.fs.length:=by
   have hf0:=gk.inc.first
   ð⟨w1,w2,w3⟩:=J7 hs.shp hi hn
   cases hh:(fr++(Qk s.fs).take (exN s i n)).head? with
   | none =>
    have:=YQ.1 hh
    have h2:=congrArg List.length this
    rw [We,Wi,W7 hf,VH] at h2
    omega
   | some x =>
    rw [hh] at hf0
    have:=gk.inc.ch.lt x (List.mem_of_head? hh)
    have h3:(⟨s.sh,s.ws,Zd s i n⟩:Sp).fs.length=s.fs.length:=gk.len
    rw [h3] at this
    rw [hf0]
    dsimp only
    omega
  have hshl:Qa9 .i64 (Jl (exN s i n) s.fs i).2.first s.sh=(grw s i n).first*2^s.sh.toNat:=by
   obtain ⟨e,he⟩:∃ e:Nat,s.sh=e:=⟨s.sh.toNat,Oo⟩
   have hb:0<=(grw s i n).first*2^s.sh.toNat/\(grw s i n).first*2^s.sh.toNat<=16384:=by
    rw [g5]
    &⟨Yz hfst.1 Oo,?_⟩
    have h1:(grw s i n).first*(szS s:Int)<=(64:Int)*(szS s:Int):=Ue Oo Oo
    have h2:(64:Int)*(szS s:Int)<=64*256:=by omega
    omega
   rw [he] at hb ⊢
   rw [Wd] at hb ⊢
   ~shl_pow Oo (by show _<=(grw s i n).first*2^e/\(grw s i n).first*2^e<=_;omega)
  rw [hshl]
  have hgo:QM ⟨s.sh,s.ws,Zd s i n⟩ ((grw s i n).first*2^s.sh.toNat) i.words=some (((adr (szS s) (fr++(Qk s.fs).take (exN s i n)) i.words.toNat:Nat):Int),0):=by
   have h1:(grw s i n).first*(szS s:Int)<=(64:Int)*(szS s:Int):=Ue Oo Oo
   have h2:(64:Int)*(szS s:Int)<=64*256:=by omega
   have h3:0<=(grw s i n).first*(szS s:Int):=Yz hfst.1 Oo
   have hI:I64 ((grw s i n).first*2^s.sh.toNat):=by rw [g5];unfold I64;omega
   have hJ:I64 i.words:=by unfold I64;omega
   rw [go_c (s:=⟨s.sh,s.ws,Zd s i n⟩) hsp.shp (Ze hsp.fm) hI hJ,gk.at hs hi hn hf]
  &Qdv hgo ?_
  have hwn:w64 ((Jl (exN s i n) s.fs i).2.words+n)=i.words+n:=by
   rw [(Qfv (exN s i n) hs hi.toIncC hf).words.1]
   ~Qd Oo
  rw [hwn,if_pos hf]
  rfl
 ·rw [if_pos Oo,if_neg hf]
theorem QcE.nil{s:Sp}(hs:Qc4 s){i:Inc}{fr:List Nat}(h:QcE s i fr)(h0:i.words=0):fr=[]:=by
 ð⟨g1,g2,g3,g4,g5⟩:=hs.z
 have hl:=h.len
 rw [h0,show (0:Int)=((0:Nat):Int) from rfl,Qb2 hs.sh Oo,WS,UY Oo] at hl
 ~Vp.1 Oo
theorem sp_ws{s:Sp}(hs:ZL s){ws:List Int}(hl:ws.length=s.ws.length)(h:∀ k (hk:k<s.fs.length),s.fs[k].ow = -1->∀ a (h1:a<s.ws.length) (h2:a<ws.length),a/szS s=k->ws[a]=s.ws[a]):ZL ⟨s.sh,ws,s.fs⟩:=by
 ð⟨g1,g2,g3,g4,g5⟩:=hs.shp.z
 &⟨⟨hs.shp.sh,hs.shp.lo,hs.shp.hi,by show ws.length=_;rw [hl];~hs.shp.wl⟩,λi hi=>?_,hs.uq,hs.ends⟩
 rcases hs.fm i hi with q | q
 ·&.inl ⟨q.1,q.2.1,q.2.2.1,λa ha h1 h2=>?_⟩
  have ha2:a<s.ws.length:=by have:a<ws.length:=ha;omega
  show ws[a]=0
  have e:szS (⟨s.sh,ws,s.fs⟩:Sp)=szS s:=rfl
  rw [e] at h1 h2
  have hd:a/szS s=i:=U3 h1 h2
  rw [h i hi q.1 a ha2 ha hd]
  ~q.2.2.2 a ha2 h1 h2
 ·~.inr q
theorem clrL_get(s:Sp)(a:Int):∀ (n:Nat) (l:List Int) (x:Nat),(∀ k:Nat,1<=k->k<=n->(GoR s a (k:Int)).1.toNat≠x)->(clrL s a n l)[x]?=l[x]?
 | 0,l,x,_=>rfl
 | n+1,l,x,h=>by
  unfold clrL
  rw [WC (by have:=h (n+1) Oo Oo;exact_mod_cast this)]
  ~clrL_get s a n l x λk h1 h2=>h k h1 Oo
theorem clrL_zero(s:Sp)(a:Int):∀ (n:Nat) (l:List Int) (k:Nat),1<=k->k<=n->(GoR s a (k:Int)).1.toNat<l.length->(clrL s a n l)[(GoR s a (k:Int)).1.toNat]?=some 0
 | 0,l,k,h1,h2,_=>by omega
 | n+1,l,k,h1,h2,hl=>by
  unfold clrL
  by_cases he:(GoR s a ((n+1:Nat):Int)).1.toNat=(GoR s a (k:Int)).1.toNat
  ·rw [he,WD (by rw [clrL_len];~hl)]
  ·rw [WC he]
   have:k≠n+1:=λe=>he (by rw [e])
   ~clrL_zero s a n l k h1 Oo hl
def iniW(s:Sp)(a r d:Nat):List Int:=clrL s a (r+d) (s.ws.set a (hdW r d))
theorem Qft(s:Sp)(a r d:Nat):(iniW s a r d).length=s.ws.length:=by unfold iniW;rw [clrL_len,Wv]
section
variable{s:Sp}{fr:List Nat}{p r d:Nat}
theorem go_k(hs:Qc4 s)(hc:Chn s.fs fr)(ho:Own s.fs fr){k:Nat}(h:p+k<fr.length*szS s):GoR s ((adr (szS s) fr p:Nat):Int) (k:Int)=(((adr (szS s) fr (p+k):Nat):Int),0):=by
 rw [go_adr hs hc ho Oo,if_pos h]
theorem iniW_hd(hs:Qc4 s)(hc:Chn s.fs fr)(hn:fr.Nodup)(ho:Own s.fs fr)(hp:p+r+d<fr.length*szS s):(iniW s (adr (szS s) fr p) r d)[adr (szS s) fr p]?=some (hdW r d):=by
 ð⟨g1,g2,g3,g4,g5⟩:=hs.z
 unfold iniW
 rw [clrL_get _ _ _ _ _ λk h1 h2 e=>?_,WD (Jo hs hc.lt Oo)]
 rw [go_k hs hc ho Oo] at e
 have:=Qbr Oo hn Oo Oo (show adr (szS s) fr (p+k)=adr (szS s) fr p from e)
 omega
theorem iniW_0(hs:Qc4 s)(hc:Chn s.fs fr)(hn:fr.Nodup)(ho:Own s.fs fr)(hp:p+r+d<fr.length*szS s){k:Nat}(h1:1<=k)(h2:k<=r+d):(iniW s (adr (szS s) fr p) r d)[adr (szS s) fr (p+k)]?=some 0:=by
 have e:=go_k (k:=k) hs hc ho (p:=p) Oo
 have:=clrL_zero s ((adr (szS s) fr p:Nat):Int) (r+d) (s.ws.set (adr (szS s) fr p) (hdW r d)) k h1 h2 (by rw [e,Wv];~Jo hs hc.lt Oo)
 rw [e] at this
 ~this
theorem Qcx(hs:Qc4 s)(hc:Chn s.fs fr)(ho:Own s.fs fr)(hp:p+r+d<fr.length*szS s){x:Nat}(h:∀ k,k<=r+d->x≠adr (szS s) fr (p+k)):(iniW s (adr (szS s) fr p) r d)[x]?=s.ws[x]?:=by
 have h0:x≠adr (szS s) fr p:=h 0 (WT _)
 unfold iniW
 rw [clrL_get _ _ _ _ _ λk h1 h2 e=>?_,WC λe=>h0 e.symm]
 rw [go_k hs hc ho Oo] at e
 ~h k h2 e.symm
theorem ini_sp(hs:ZL s)(hW:SpW s)(hc:Chn s.fs fr)(hn:fr.Nodup)(ho:Own s.fs fr)(hp:p+r+d<fr.length*szS s)(hr:r<=15)(hd:d<=32):ZL ⟨s.sh,iniW s (adr (szS s) fr p) r d,s.fs⟩/\SpW ⟨s.sh,iniW s (adr (szS s) fr p) r d,s.fs⟩:=by
 ð⟨g1,g2,g3,g4,g5⟩:=hs.shp.z
 &⟨sp_ws hs (Qft ..) λk hk hfree a h1 h2 hak=>?_,λx hx=>?_,hW.2⟩
 ·have:=Qcx hs.shp hc ho hp (x:=a) λj hj e=>?_
  ·rw [Wa h2,Wa h1] at this
   ~VD this
  ·ð⟨d1,_⟩:=Qdy (show 0<szS s by omega) fr (p+j)
   have hj2:(p+j)/szS s<fr.length:=Vt (by rw [VE];omega)
   rw [<- e,hak,Wa hj2,WE] at d1
   subst d1
   ~ho _ (Wc hj2) hk hfree
 ·have hx:x∈iniW s (adr (szS s) fr p) r d:=hx
  ð⟨a,ha,rfl⟩:=UB hx
  have h1:(iniW s (adr (szS s) fr p) r d)[a]?=some (iniW s (adr (szS s) fr p) r d)[a]:=Wa ha
  by_cases hk:∃ k,k<=r+d/\a=adr (szS s) fr (p+k)
  ·ð⟨k,hk,e⟩:=hk
   by_cases h0:k=0
   ·subst h0
    subst e
    have this:(iniW s (adr (szS s) fr p) r d)[adr (szS s) fr (p+0)]?=some (hdW r d):=iniW_hd hs.shp hc hn ho hp
    rw [h1] at this
    rw [VD this]
    unfold U64 hdW
    omega
   ·subst e
    have:=iniW_0 hs.shp hc hn ho hp (k:=k) Oo hk
    rw [h1] at this
    rw [VD this]
    unfold U64
    omega
  ·have:=Qcx hs.shp hc ho hp (x:=a) λk hkk e=>hk ⟨k,hkk,e⟩
   rw [h1] at this
   ~hW.1 _ (Wp this.symm)
end
def Lay(z:Nat)(ws:List Int)(fr:List Nat):Nat->List (Nat×Nat)->Nat->Prop
 | p,[],q=>p=q
 | p,(r,d) :: l,q=>r<=15/\d<=32/\ws[adr z fr p]?=some (hdW r d)/\Lay z ws fr (p+1+r+d) l q
theorem Lay.le{z:Nat}{ws:List Int}{fr:List Nat}:∀ {l:List (Nat×Nat)} {p q:Nat},Lay z ws fr p l q->p<=q
 | [],p,q,h=>Nat.le_of_eq h
 | (r,d) :: l,p,q,h=>by have:=h.2.2.2.le;omega
theorem Lay.congr{z:Nat}{ws ws':List Int}{fr fr':List Nat}:∀ {l:List (Nat×Nat)} {p q:Nat},Lay z ws fr p l q->(∀ k,p<=k->k<q->adr z fr' k=adr z fr k/\ws'[adr z fr k]?=ws[adr z fr k]?)->Lay z ws' fr' p l q
 | [],p,q,h,_=>h
 | (r,d) :: l,p,q,h,hk=>by
  ð⟨h1,h2,h3,h4⟩:=h
  have hle:=h4.le
  ð⟨e1,e2⟩:=hk p (Wl _) Oo
  ~⟨h1,h2,by rw [e1,e2];~h3,h4.congr λk a b=>hk k Oo b⟩
theorem Lay.snoc{z:Nat}{ws:List Int}{fr:List Nat}{r d:Nat}(hr:r<=15)(hd:d<=32):∀ {l:List (Nat×Nat)} {p q:Nat},Lay z ws fr p l q->ws[adr z fr q]?=some (hdW r d)->Lay z ws fr p (l++[(r,d)]) (q+1+r+d)
 | [],p,q,h,hw=>by
  have h:p=q:=h
  subst h
  ~⟨hr,hd,hw,rfl⟩
 | (r',d') :: l,p,q,h,hw=>⟨h.1,h.2.1,h.2.2.1,h.2.2.2.snoc hr hd hw⟩
structure Itm where
 i:Inc
 fr:List Nat
 os:List (Nat×Nat)
structure QaC(s:Sp)(x:Itm):Prop where
 inc:QcE s x.i x.fr
 lay:Lay (szS s) s.ws x.fr 0 x.os x.i.words.toNat
structure Qck(s:Sp)(L:List Itm):Prop where
 ok:ZL s
 w:SpW s
 each:∀ x∈L,QaC s x
 seqs:L.Pairwise λx y=>x.i.seq≠y.i.seq
 all:∀ k (h:k<s.fs.length),¬ s.fs[k].ow = -1->∃ x∈L,k∈x.fr
theorem QaC.room{s:Sp}(hs:Qc4 s){x:Itm}(h:QaC s x):x.i.words.toNat<=x.fr.length*szS s:=by
 ð⟨g1,g2,g3,g4,g5⟩:=hs.z
 have hw:=hs.small
 have hl:=h.inc.len
 have hd:=h.inc.wd
 obtain ⟨a,ha⟩:∃ a:Nat,x.i.words=a:=⟨x.i.words.toNat,Oo⟩
 rw [ha,Qb2 hs.sh Oo] at hl
 have e:x.fr.length=(a+szS s-1)/szS s:=by omega
 rw [e,ha,Wd]
 have h1:=UJ (a+szS s-1) (szS s)
 have h2:=UV (a+szS s-1) (show 0<szS s by omega)
 rw [VE] at h1
 omega
theorem IncC.disj{fs:List Fe}{i j:Inc}{fr fr':List Nat}(h:IncC fs i fr)(h':IncC fs j fr')(hne:i.seq≠j.seq):∀ k∈fr,k∉fr':=λk hk hk'=>by
 have hl:=h.ch.lt k hk
 ~hne (((h.ow k hl).2 hk).symm.trans ((h'.ow k hl).2 hk'))
theorem Qcz{fs:List Fe}{k:Nat}(h:k∈Qk fs):∃ h':k<fs.length,fs[k].ow = -1:=by
 unfold Qk at h
 ~isFr_lt (WI.1 h).2
def Qde(s:Sp)(x:Itm)(r d:Nat):Sp:=⟨s.sh,iniW ⟨s.sh,s.ws,Zd s x.i ((1+r+d:Nat):Int)⟩ (adr (szS s) (x.fr++(Qk s.fs).take (exN s x.i ((1+r+d:Nat):Int))) x.i.words.toNat) r d,Zd s x.i ((1+r+d:Nat):Int)⟩
def aloX(s:Sp)(x:Itm)(r d:Nat):Itm:=⟨grw s x.i ((1+r+d:Nat):Int),x.fr++(Qk s.fs).take (exN s x.i ((1+r+d:Nat):Int)),x.os++[(r,d)]⟩
theorem alo_own{s:Sp}(hs:ZL s)(hW:SpW s){x:Itm}(hx:QaC s x){r d:Nat}(hr:r<=15)(hd:d<=32)(hf:exN s x.i ((1+r+d:Nat):Int)<=(Qk s.fs).length) :
  ZL (Qde s x r d)/\SpW (Qde s x r d)/\QaC (Qde s x r d) (aloX s x r d):=by
 ð⟨g1,g2,g3,g4,g5⟩:=hs.shp.z
 have hn:1<=((1+r+d:Nat):Int)/\((1+r+d:Nat):Int)<=48:=by omega
 have gk:=Qge hs hx.inc hn hf
 ð⟨w1,w2,w3⟩:=J7 hs.shp hx.inc hn
 have hwd:=hx.inc.wd
 have hlen:(x.fr++(Qk s.fs).take (exN s x.i ((1+r+d:Nat):Int))).length=x.fr.length+exN s x.i ((1+r+d:Nat):Int):=by
  rw [We,Wi,W7 hf]
 have hp:x.i.words.toNat+r+d<(x.fr++(Qk s.fs).take (exN s x.i ((1+r+d:Nat):Int))).length*szS s:=by rw [hlen];omega
 have hWg:SpW ⟨s.sh,s.ws,Zd s x.i ((1+r+d:Nat):Int)⟩:=⟨hW.1,λf hf=>by
  ð⟨k,hk,rfl⟩:=UB hf
  have h64:=hs.shp.hi
  have hgl:(Zd s x.i ((1+r+d:Nat):Int)).length=s.fs.length:=gk.len
  rcases gk.sp.fm k hk with h | h
  ·ð⟨a,b,c,_⟩:=h
   rw [a,b,c]
   unfold I64
   omega
  ·ð⟨⟨a,b,c,d1,d2,d3⟩,e1,e2,_⟩:=h
   have e2:_<((Zd s x.i ((1+r+d:Nat):Int)).length:Int):=e2
   unfold I64
   omega⟩
 ð⟨q1,q2⟩:=ini_sp gk.sp hWg gk.inc.ch gk.inc.nd gk.inc.own (p:=x.i.words.toNat) hp hr hd
 &⟨q1,q2,?_,?_⟩
 ·have:=gk.inc
  ~{ this.toIncC with wd:=⟨this.wd.1,by show _<=((Qde s x r d).ws.length:Int);rw [show (Qde s x r d).ws.length=s.ws.length from Qft ..];~this.wd.2⟩,len:=this.len }
 ·have hroom:=hx.room hs.shp
  show Lay (szS s) (Qde s x r d).ws (aloX s x r d).fr 0 (x.os++[(r,d)]) (x.i.words+((1+r+d:Nat):Int)).toNat
  rw [show (x.i.words+((1+r+d:Nat):Int)).toNat=x.i.words.toNat+1+r+d by omega]
  &Lay.snoc hr hd (hx.lay.congr λk _ hk=>⟨Xg Oo Oo,?_⟩) ?_
  ·have:=Qcx (s:=⟨s.sh,s.ws,Zd s x.i ((1+r+d:Nat):Int)⟩) gk.sp.shp gk.inc.ch gk.inc.own (p:=x.i.words.toNat) hp (x:=adr (szS s) x.fr k) λj hj e=>by
    rw [<- Xg (l:=(Qk s.fs).take (exN s x.i ((1+r+d:Nat):Int))) (show 0<szS s by omega) (show k<x.fr.length*szS s by omega)] at e
    have:=Qbr (show 0<szS s by omega) gk.inc.nd (show k<_*szS s by omega) (show x.i.words.toNat+j<_*szS s by omega) e
    omega
   ~this
  ·~iniW_hd (s:=⟨s.sh,s.ws,Zd s x.i ((1+r+d:Nat):Int)⟩) gk.sp.shp gk.inc.ch gk.inc.nd gk.inc.own (p:=x.i.words.toNat) hp
theorem alo_inv{s:Sp}{A B:List Itm}{x:Itm}(h:Qck s (A++x :: B)){r d:Nat}(hr:r<=15)(hd:d<=32)(hf:exN s x.i ((1+r+d:Nat):Int)<=(Qk s.fs).length):Qck (Qde s x r d) (A++aloX s x r d :: B):=by
 have hs:=h.ok
 ð⟨g1,g2,g3,g4,g5⟩:=hs.shp.z
 have hx:=h.each x Os
 have hn:1<=((1+r+d:Nat):Int)/\((1+r+d:Nat):Int)<=48:=by omega
 have gk:=Qge hs hx.inc hn hf
 ð⟨q1,q2,q3⟩:=alo_own hs h.w hx hr hd hf
 have hsq:(aloX s x r d).i.seq=x.i.seq:=gk.same.2.1
 have hne:∀ y,y∈A\/y∈B->x.i.seq≠y.i.seq:=λy hy=>by
  have hp:=W5.1 h.seqs
  rcases hy with hy | hy
  ·~λe=>hp.2.2 y hy x Os e.symm
  ·~(Vs.1 hp.2.1).1 y hy
 have hlen:(Zd s x.i ((1+r+d:Nat):Int)).length=s.fs.length:=gk.len
 &⟨q1,q2,λy hy=>?_,?_,λk hk ho=>?_⟩
 ·have hy2:y=aloX s x r d\/y∈A\/y∈B:=by
   rcases Wn.1 hy with h1 | h1
   ·~.inr (.inl h1)
   ·rcases Wt.1 h1 with h2 | h2
    ·~.inl h2
    ·~.inr (.inr h2)
  rcases hy2 with rfl | hy2
  ·~q3
  ·have hyI:=h.each y (by rcases hy2 with h1 | h1 <;> simp [h1])
   have hney:=hne y hy2
   have hdis:=hx.inc.toIncC.disj hyI.inc.toIncC hney
   have notin:∀ k∈y.fr,k∉x.fr/\k∉(Qk s.fs).take (exN s x.i ((1+r+d:Nat):Int)):=λk hk=>⟨λe=>hdis k e hk,λe=>by
    ð⟨k1,k2⟩:=Qcz (VU e)
    ~hyI.inc.own k hk k1 k2⟩
   have hsame:∀ k (h1:k<s.fs.length) (h2:k<(Zd s x.i ((1+r+d:Nat):Int)).length),k∈y.fr->(Zd s x.i ((1+r+d:Nat):Int))[k]=s.fs[k]:=λk h1 h2 hk=>gk.other k h1 h2 (notin k hk).1 (notin k hk).2
   &⟨⟨⟨hyI.inc.sq,hyI.inc.bl,?_,hyI.inc.nd,λk hk=>?_,λk hk hky=>?_,hyI.inc.first,hyI.inc.last⟩,⟨hyI.inc.wd.1,?_⟩,hyI.inc.len⟩,?_⟩
   ·~hyI.inc.ch.congr hlen λk hk a b=>by rw [hsame k a b hk]
   ·have hk:k<(Zd s x.i ((1+r+d:Nat):Int)).length:=hk
    have hk1:k<s.fs.length:=by omega
    by_cases hky:k∈y.fr
    ·show (Zd s x.i ((1+r+d:Nat):Int))[k].ow=_<->_
     rw [hsame k hk1 hk hky]
     ~hyI.inc.ow k hk1
    ·&⟨λe=>?_,λe=>absurd e hky⟩
     exfalso
     by_cases hkx:k∈x.fr++(Qk s.fs).take (exN s x.i ((1+r+d:Nat):Int))
     ·have:=(gk.inc.ow k hk).2 hkx
      rw [gk.same.2.1] at this
      ~hney (this.symm.trans e)
     ·rw [Wn,not_or] at hkx
      have h3:=gk.other k hk1 hk hkx.1 hkx.2
      have e:(Zd s x.i ((1+r+d:Nat):Int))[k].ow=y.i.seq:=e
      rw [h3] at e
      ~hky ((hyI.inc.ow k hk1).1 e)
   ·have hk:k<(Zd s x.i ((1+r+d:Nat):Int)).length:=hk
    show (Zd s x.i ((1+r+d:Nat):Int))[k].st=_
    rw [hsame k Oo hk hky]
    ~hyI.inc.st k Oo hky
   ·show _<=((Qde s x r d).ws.length:Int)
    rw [show (Qde s x r d).ws.length=s.ws.length from Qft ..]
    ~hyI.inc.wd.2
   ·have hroom:=hyI.room hs.shp
    &hyI.lay.congr λk _ hk=>⟨rfl,?_⟩
    ð⟨w1,w2,w3⟩:=J7 hs.shp hx.inc hn
    have hwd:=hx.inc.wd
    have hlen2:(x.fr++(Qk s.fs).take (exN s x.i ((1+r+d:Nat):Int))).length=x.fr.length+exN s x.i ((1+r+d:Nat):Int):=by
     rw [We,Wi,W7 hf]
    have hp:x.i.words.toNat+r+d<(x.fr++(Qk s.fs).take (exN s x.i ((1+r+d:Nat):Int))).length*szS s:=by rw [hlen2];omega
    ~Qcx (s:=⟨s.sh,s.ws,Zd s x.i ((1+r+d:Nat):Int)⟩) gk.sp.shp gk.inc.ch gk.inc.own (p:=x.i.words.toNat) hp (x:=adr (szS s) y.fr k) λj hj e=>by
     &QeQ (show 0<szS s by omega) (fr:=y.fr) (fr':=x.fr++(Qk s.fs).take (exN s x.i ((1+r+d:Nat):Int))) (λk hk hk2=>?_) (show k<_*szS s by omega) (show x.i.words.toNat+j<_*szS s by omega) e
     rcases Wn.1 hk2 with h1 | h1
     ·~(notin k hk).1 h1
     ·~(notin k hk).2 h1
 ·have hp:=W5.1 h.seqs
  have hc:=Vs.1 hp.2.1
  &W5.2 ⟨hp.1,Vs.2 ⟨λy hy=>by rw [hsq];~hc.1 y hy,hc.2⟩,λa ha b hb=>?_⟩
  rcases Wt.1 hb with rfl | hb
  ·rw [hsq];~hp.2.2 a ha x Os
  ·~hp.2.2 a ha b (by simp [hb])
 ·have hk:k<(Zd s x.i ((1+r+d:Nat):Int)).length:=hk
  by_cases hkx:k∈x.fr++(Qk s.fs).take (exN s x.i ((1+r+d:Nat):Int))
  ·~⟨aloX s x r d,Os,hkx⟩
  ·rw [Wn,not_or] at hkx
   have h3:=gk.other k Oo hk hkx.1 hkx.2
   have ho:¬ (Zd s x.i ((1+r+d:Nat):Int))[k].ow = -1:=ho
   rw [h3] at ho
   ð⟨y,hy,hky⟩:=h.all k Oo ho
   rcases Wn.1 hy with h1 | h1
   ·~⟨y,by simp [h1],hky⟩
   ·rcases Wt.1 h1 with rfl | h2
    ·~absurd hky hkx.1
    ·~⟨y,by simp [h2],hky⟩
def obs:Nat->List (Nat×Nat)->List (Nat×Nat×Nat)
 | _,[]=>[]
 | p,(r,d) :: l=>(p,r,d) :: obs (p+1+r+d) l
theorem Qfj{z:Nat}{ws:List Int}{fr:List Nat}{r d:Nat}:∀ {l:List (Nat×Nat)} {p q:Nat},Lay z ws fr p l q->obs p (l++[(r,d)])=obs p l++[(q,r,d)]
 | [],p,q,h=>by
  have h:p=q:=h
  subst h
  rfl
 | (r',d') :: l,p,q,h=>by
  show (p,r',d') :: obs _ (l++[(r,d)])=(p,r',d') :: (obs _ l++[(q,r,d)])
  rw [Qfj h.2.2.2]
theorem Lay.get{z:Nat}{ws:List Int}{fr:List Nat}:∀ {l:List (Nat×Nat)} {p q:Nat},Lay z ws fr p l q->∀ o∈obs p l,p<=o.1/\o.1+1+o.2.1+o.2.2<=q/\o.2.1<=15/\o.2.2<=32/\ws[adr z fr o.1]?=some (hdW o.2.1 o.2.2)
 | [],p,q,h,o,ho=>by cases ho
 | (r,d) :: l,p,q,h,o,ho=>by
  ð⟨h1,h2,h3,h4⟩:=h
  rcases Wt.1 ho with rfl | ho
  ·~⟨Wl _,h4.le,h1,h2,h3⟩
  ·ð⟨k1,k2,k3⟩:=h4.get o ho
   ~⟨Oo,k2,k3⟩
def Qdx(s:Sp)(x:Itm):List Int:=(obs 0 x.os).map λ(o:Nat×Nat×Nat)=>((adr (szS s) x.fr o.1:Nat):Int)
theorem Qdo{s:Sp}(hs:ZL s){fr:List Nat}(hc:Chn s.fs fr)(ho:Own s.fs fr){p r d:Nat}(hp:p+r+d<fr.length*szS s)(hr:r<=15)(hd:d<=32)(hw:s.ws[adr (szS s) fr p]?=some (hdW r d)) :
  Qy s ((adr (szS s) fr p:Nat):Int)=⟨r,d,0⟩/\ShapeR s ((adr (szS s) fr p:Nat):Int)=⟨r,d,0⟩:=by
 have h1:Qy s ((adr (szS s) fr p:Nat):Int)=⟨r,d,0⟩:=LookR_mk (by
   have:=go_k (k:=0) hs.shp hc ho (p:=p) Oo
   ~congrArg Prod.snd this) (Jk hw) (by unfold Qd4;omega) (by
   rw [show (r:Int)+(d:Int)=((r+d:Nat):Int) by push_cast;rfl,go_k hs.shp hc ho Oo])
 ~⟨h1,by rw [ShapeR_t hs];~h1⟩
theorem QfM{s:Sp}(hs:Qc4 s){f:Int}(hf:0<=f/\f<s.fs.length):wu s.sh=s.sh/\0<=s.sh/\Qa9 .i64 f s.sh=f*szS s/\0<=f*szS s/\f*szS s<=16384:=by
 ð⟨g1,g2,g3,g4,g5⟩:=hs.z
 have h64:=hs.hi
 obtain ⟨e,he⟩:∃ e:Nat,s.sh=e:=⟨s.sh.toNat,Oo⟩
 have hb:0<=f*(szS s:Int)/\f*(szS s:Int)<=16384:=by
  &⟨Yz hf.1 Oo,?_⟩
  have h1:f*(szS s:Int)<=(64:Int)*(szS s:Int):=Ue Oo Oo
  have h2:(64:Int)*(szS s:Int)<=64*256:=by omega
  omega
 &⟨Xv Oo,g1,?_,hb.1,hb.2⟩
 have e5:(2:Int)^e=szS s:=by rw [<- g5,he,Wd]
 rw [he,shl_pow Oo (by rw [e5];omega),e5]
theorem first_adr{fs:List Fe}{i:Inc}{fr:List Nat}(h:IncC fs i fr)(h0:0<fr.length)(z:Nat):0<=i.first/\i.first<fs.length/\i.first*(z:Int)=((adr z fr 0:Nat):Int):=by
 cases fr with
 | nil=>simp at h0
 | cons f l =>
  have hf:i.first=(f:Int):=h.first
  have:=h.ch.lt f Os
  rw [hf]
  &⟨Oo,Oo,?_⟩
  unfold adr
  simp
theorem all_spec{s:Sp}(hs:ZL s)(hW:SpW s){x:Itm}(hx:QaC s x):Qae s x.i=some (Qdx s x,0):=by
 ð⟨g1,g2,g3,g4,g5⟩:=hs.shp.z
 have hw:=hs.shp.small
 have hroom:=hx.room hs.shp
 have hwd:=hx.inc.wd
 obtain ⟨n,hn⟩:∃ n:Nat,x.i.words=n:=⟨x.i.words.toNat,Oo⟩
 have hlay:=hx.lay
 rw [hn,Wd] at hlay hroom
 unfold Qae
 &(bndR_eq (b:=Qdx s x) ?_).trans rfl
 &loop_to (σ:=List Int×Int) (λst=>∃ (o1 o2:List (Nat×Nat)) (p:Nat),x.os=o1++o2/\Lay (szS s) s.ws x.fr 0 o1 p/\Lay (szS s) s.ws x.fr p o2 n/\st=((obs 0 o1).map (λ(o:Nat×Nat×Nat)=>((adr (szS s) x.fr o.1:Nat):Int)),(p:Int))/\o1.length<=p) (λst=>n-st.2.toNat) ⟨[],x.os,0,rfl,rfl,hlay,rfl,Wl _⟩ ?_
 rintro st ⟨o1,o2,p,h1,h2,h3,rfl,h5⟩
 have hle:=h3.le
 by_cases hp:p<n
 ·&.inl ?_
  cases o2 with
  | nil=>have h3:p=n:=h3;omega
  | cons o l =>
   ð⟨r,d⟩:=o
   ð⟨k1,k2,k3,k4⟩:=h3
   have hle2:=k4.le
   have hfr:0<x.fr.length:=by
    rcases Ud x.fr.length with h0 | h0
    ·rw [h0] at hroom;omega
    ·~h0
   ð⟨f1,f2,f3⟩:=first_adr hx.inc.toIncC hfr (szS s)
   ð⟨s1,s2,s3,s4,s5⟩:=QfM hs.shp ⟨f1,f2⟩
   have hgo:=go_k (k:=p) hs.shp hx.inc.ch hx.inc.own (p:=0) Oo
   rw [WS] at hgo
   ð⟨l1,_⟩:=Qdo hs hx.inc.ch hx.inc.own (p:=p) (r:=r) (d:=d) Oo k1 k2 k3
   have hpl:=Jo hs.shp hx.inc.ch.lt (show p<x.fr.length*szS s by omega)
   have hg:QM s (Qa9 .i64 x.i.first s.sh) (p:Int)=some (((adr (szS s) x.fr p:Nat):Int),0):=by
    rw [s3,go_c hs.shp (Ze hs.fm) (by unfold I64;omega) (by unfold I64;omega),f3,hgo]
   have hl:Zl s ((adr (szS s) x.fr p:Nat):Int)=some ((r:Int),(d:Int),0):=by
    rw [look_c hs.shp (Ze hs.fm) hW (by unfold I64;omega),l1]
   have hol:(obs 0 o1).length=o1.length:=by
    have:∀ (l:List (Nat×Nat)) (p:Nat),(obs p l).length=l.length:=by
     intro l
     induction l with
     | nil=>intro p;rfl
     | cons o l ih=>intro p;ð⟨a,b⟩:=o;show (obs _ l).length+1=_;rw [ih];rfl
    ~this o1 0
   dsimp only
   rw [if_pos (by rw [hn];omega),s1,if_pos s2,hg,WQ,hl,WQ]
   dsimp only
   have e1:w64 (w64 (w64 ((p:Int)+1)+r)+d)=((p+1+r+d:Nat):Int):=by rw [Qd (n:=(p:Int)+1) Oo,Qd (n:=(p:Int)+1+r) Oo,Qd Oo];push_cast;rfl
   have e2:w64 ((p:Int)+w64 (w64 (1+(r:Int))+d))=((p+1+r+d:Nat):Int):=by rw [Qd (n:=1+(r:Int)) Oo,Qd (n:=1+(r:Int)+d) Oo,Qd Oo];push_cast;omega
   rw [if_pos rfl,e1,if_neg (by rw [hn];omega),if_pos (by simp only [Wb,WX,VH,hol];omega),e2]
   &⟨_,rfl,⟨o1++[(r,d)],l,p+1+r+d,by rw [h1,WP];rfl,h2.snoc k1 k2 k3,k4,?_,by rw [We,WK];omega⟩,by show n-(((p+1+r+d:Nat):Int)).toNat<n-((p:Nat):Int).toNat;omega⟩
   rw [Qfj h2,WH]
   rfl
 ·&.inr ?_
  dsimp only
  rw [if_neg (by rw [hn];omega)]
  have hpn:p=n:=by omega
  subst hpn
  cases o2 with
  | nil =>
   rw [Vl] at h1
   subst h1
   rfl
  | cons o l =>
   ð⟨r,d⟩:=o
   have:=h3.2.2.2.le
   omega
theorem Qgb{α:Type}{p q:Prop}[Decidable p][Decidable q]{x y:α}(h:p<->q):(if p then x else y)=if q then x else y:=by
 by_cases k:p
 ·rw [if_pos k,if_pos (h.1 k)]
 ·rw [if_neg k,if_neg λc=>k (h.2 c)]
theorem Qgg{α γ:Type}(g:γ->α->γ):∀ (l:List (List α)) (t:γ),l.flatten.foldl g t=l.foldl (λt a=>a.foldl g t) t
 | [],t=>rfl
 | a :: l,t=>by rw [Vi,US];~Qgg g l _
def sumW(l:List Inc):Int:=l.foldl (λ(n:Int) x=>n+x.words) 0
def WdIn(B:List (List Inc)):Prop:=∀ q∈B,∀ x∈q,0<=x.words/\x.words<=16384
theorem words11_c{B:List (List Inc)}(h:BSz B)(hw:WdIn B):JS B=some (sumW B.flatten):=by
 have h1:=h.1
 &Gd.eq ?_
 unfold JS
 &Gd.bind (P:=λb=>b=sumW B.flatten) ?_ λb hb=>.some hb
 unfold sumW
 rw [Qgg]
 &Gd.fold B (λ(t:Int) i=>(t,i)) (λt q=>q.foldl (λ(n:Int) x=>n+x.words) t) 0 (λi t=>0<=t/\t<=163840000*i) rfl (λ_ _=>rfl) Oo Oo (λi hi t ht=>?_) (λ_=>rfl)
 have h2:=h.2 _ (Wc hi)
 have key:∀ (l:List Inc) (t:Int),(∀ x∈l,0<=x.words/\x.words<=16384)->t<=l.foldl (λ(n:Int) x=>n+x.words) t/\l.foldl (λ(n:Int) x=>n+x.words) t<=t+16384*l.length:=by
  intro l
  induction l with
  | nil=>intro t _;simp
  | cons a l ih =>
   intro t h
   have k1:=h a (WA ..)
   have k2:=ih (t+a.words) λx hx=>h x (Wm _ hx)
   rw [V2,WX]
   omega
 have hk:=key B[i] t (hw _ (Wc hi))
 &⟨Oo,?_⟩
 &Gd.bind (P:=λb=>b=B[i].foldl (λ(n:Int) x=>n+x.words) t) ?_ λb hb=>.some (by rw [hb])
 &.atN hi ?_
 &Gd.fold B[i] (λ(t:Int) i=>(t,i)) (λ(n:Int) x=>n+x.words) t (λj u=>t<=u/\u<=t+16384*j) rfl (λ_ _=>rfl) Oo Oo (λj hj u hu=>?_) (λ_=>rfl)
 have k1:=hw _ (Wc hi) _ (Wc hj)
 &⟨Oo,?_⟩
 &.atN hj (.some ?_)
 dsimp only
 rw [Qd (n:=u+B[i][j].words) Oo]
def largF(s:Sp)(l:List Inc):Int:=l.foldl (λ(n:Int) x=>max n (clN s x.words)) 0
theorem largest_c{s:Sp}(hs:Qco s.sh){B:List (List Inc)}(h:BSz B)(hw:WdIn B):XL s B=some (largF s B.flatten):=by
 have h1:=h.1
 &Gd.eq ?_
 unfold XL
 &Gd.bind (P:=λb=>b=largF s B.flatten) ?_ λb hb=>.some hb
 unfold largF
 rw [Qgg]
 &Gd.fold B (λ(t:Int) i=>(t,i)) (λt q=>q.foldl (λ(n:Int) x=>max n (clN s x.words)) t) 0 (λ_ _=>True) rfl (λ_ _=>rfl) Oo trivial (λi hi t ht=>⟨trivial,?_⟩) (λ_=>rfl)
 have h2:=h.2 _ (Wc hi)
 &Gd.bind (P:=λb=>b=B[i].foldl (λ(n:Int) x=>max n (clN s x.words)) t) ?_ λb hb=>.some (by rw [hb])
 &.atN hi ?_
 &Gd.fold B[i] (λ(t:Int) i=>(t,i)) (λ(n:Int) x=>max n (clN s x.words)) t (λ_ _=>True) rfl (λ_ _=>rfl) Oo trivial (λj hj u hu=>⟨trivial,?_⟩) (λ_=>rfl)
 have k1:=hw _ (Wc hi) _ (Wc hj)
 ~.atN hj (.call (Qbz hs (by unfold I64;omega)) (.some rfl))
theorem size_c{s:Sp}(hs:Qco s.sh):Qat s=some (szS s:Int):=by
 &Gd.eq ?_
 unfold Qat
 &.call (rshift_c _) (.pos (J5 hs) (.pos (wu_sh hs) (.some ?_)))
 ~sh_1 hs
theorem open_c{s:Sp}(hs:Qco s.sh)(i:Inc)(n:Int):Jw s i n=some (decide (n=0) || decide (i.words<w64 (n*(szS s:Int)))):=by
 &Gd.eq ?_
 unfold Jw
 &.ite (λh=>.some (by simp [h])) λh=>.call (size_c hs) (.some (by simp [h]))
theorem used_c{s:Sp}(h:s.fs.length<=65536):Qas s=some ((s.fs.length:Int)-(Qk s.fs).length):=by
 have h1:(Qk s.fs).length<=s.fs.length:=by
  have:=W8 (isFr s.fs) (List.range s.fs.length)
  rw [WV] at this
  ~this
 unfold Qas
 rw [free_ok s h,WQ,Wb,Qd Oo]
def QaT(fs:List Fe)(q:Int):List Fe:=fs.map λf=>if f.ow=q then feF else f
def Qcj(z:Nat)(fs:List Fe)(q:Int)(ws:List Int):List Int:=ws.mapIdx λa w=>if isOw fs q (a/z)=true then 0 else w
theorem clear_c{s:Sp}(hs:Qc4 s)(q:Int):∃ n,Zf s q=some (n,Qcj (szS s) s.fs q s.ws,QaT s.fs q):=by
 ð⟨g1,g2,g3,g4,g5⟩:=Jm hs.sh
 have h64:=hs.hi
 have hwl:=hs.wl
 have hmx:s.fs.length*szS s<=64*256:=V1 h64 g4
 suffices h:Gd (λr=>∃ n:Int,r=(n,Qcj (szS s) s.fs q s.ws,QaT s.fs q)) (Zf s q) by
  ð⟨r,h1,n,rfl⟩:=h
  ~⟨n,h1⟩
 unfold Zf
 &Gd.bind (P:=λb:List Int×List Fe×Int=>b.1=Qcj (szS s) s.fs q s.ws/\b.2.1=QaT s.fs q) ?_ λb hb=>.some ⟨b.2.2,by rw [hb.1,hb.2]⟩
 &Gd.for s.fs.length (λ(t:List Int×List Fe×Int) i=>(t.1,t.2.1,t.2.2,i)) (λi t=>t.1=(s.ws.mapIdx λa w=>if a/szS s<i/\isOw s.fs q (a/szS s)=true then 0 else w)/\t.2.1=(s.fs.mapIdx λk f=>if k<i/\f.ow=q then feF else f)) (s.ws,s.fs,0) rfl (λ_ _=>rfl) Oo
  ⟨?_,?_⟩ (λi hi t ht=>?_) (λt ht=>?_)
 ·dsimp only
  apply VN
  ·simp
  ·intro a h1 h2;simp
 ·dsimp only
  apply VN
  ·simp
  ·intro a h1 h2;simp
 ·ð⟨t1,t2⟩:=ht
  have hl2:t.2.1.length=s.fs.length:=by rw [t2];simp
  have hl1:t.1.length=s.ws.length:=by rw [t1];simp
  have hti:t.2.1[i]' Oo=s.fs[i]:=by simp [t2]
  &Gd.bind (P:=λb:List Int×List Fe×Int=>b.1=(s.ws.mapIdx λa w=>if a/szS s<i+1/\isOw s.fs q (a/szS s)=true then 0 else w)/\b.2.1=(s.fs.mapIdx λk f=>if k<i+1/\f.ow=q then feF else f)) ?_ λb hb=>.some (.inl ⟨(b.1,b.2.1,b.2.2),rfl,hb⟩)
  &.atN (l:=t.2.1) Oo ?_
  have hz:(i+1)*szS s=i*szS s+szS s:=Vq _ _
  have hzl:(i+1)*szS s<=s.fs.length*szS s:=WB _ hi
  &.ite (λhq=>?_) λhq=>.some ⟨?_,?_⟩
  ·&.pos (wu_sh hs.sh) ?_
   have e1:w64 ((i:Int)+1)=((i+1:Nat):Int):=Qd Oo
   dsimp only
   rw [e1,shl_k hs.sh i rfl Oo,shl_k hs.sh (i+1) rfl Oo]
   have hq:s.fs[i].ow=q:=by rw [<- hti];~hq
   &Gd.loop (λx:List Int×Int=>∃ a:Nat,x.2=a/\i*szS s<=a/\a<=(i+1)*szS s/\x.1=(s.ws.mapIdx λb w=>if (b/szS s<i\/(i*szS s<=b/\b<a))/\isOw s.fs q (b/szS s)=true then 0 else w)) _ (λx=>(i+1)*szS s-x.2.toNat) ⟨i*szS s,rfl,Wl _,Oo,?_⟩ ?_
   ·dsimp only
    rw [t1]
    apply VN
    ·simp
    ·intro b h1 h2
     simp only [Vw]
     have:¬ (i*szS s<=b/\b<i*szS s):=by omega
     simp [this]
   ·rintro ⟨x1,x2⟩ ⟨a,rfl,a1,a2,rfl⟩
    dsimp only
    &.ite (λhlt=>?_) λhlt=>.out ⟨?_,?_⟩
    ·have hal:a<s.ws.length:=by omega
     have e2:w64 ((a:Int)+1)=((a+1:Nat):Int):=Qd Oo
     &.atN (by simp;~hal) ?_
     rw [e2,Wd]
     &.go ⟨a+1,rfl,Oo,Oo,?_⟩ (by dsimp only;omega)
     have hdiv:a/szS s=i:=U3 Oo Oo
     apply VN
     ·simp
     ·intro b h1 h2
      simp only [Wv,Uf] at h1 h2
      by_cases e:a=b
      ·subst e
       rw [UO,Vw,if_pos]
       &⟨.inr ⟨a1,Oo⟩,?_⟩
       rw [hdiv,Qer hi,hq];simp
      ·rw [VO e,Vw,Vw]
       &Qgb (and_congr_left λ_=>or_congr_right (and_congr_right λ_=>?_))
       omega
    ·have ea:a=(i+1)*szS s:=by omega
     subst ea
     dsimp only
     apply VN
     ·simp
     ·intro b h1 h2
      simp only [Vw]
      &Qgb (and_congr_left λ_=>?_)
      have d1:=VP (x:=b) (y:=i) (show 0<szS s by omega)
      have d2:=VP (x:=b) (y:=i+1) (show 0<szS s by omega)
      omega
    ·dsimp only
     rw [Wd,t2]
     apply VN
     ·simp
     ·intro k h1 h2
      simp only [Wv,Uf] at h1 h2
      by_cases e:i=k
      ·subst e
       rw [UO,Vw,if_pos ⟨Oo,hq⟩]
      ·rw [VO e,Vw,Vw]
       ~Qgb (and_congr_left λ_=>by omega)
  ·have hq:¬ s.fs[i].ow=q:=by rw [<- hti];~hq
   dsimp only
   rw [t1]
   apply VN
   ·simp
   ·intro b h1 h2
    simp only [Vw]
    &Qgb ?_
    constructor
    ·~λh=>⟨Oo,h.2⟩
    ·intro h
     &⟨?_,h.2⟩
     by_cases e:b/szS s=i
     ·rw [e,Qer hi] at h
      ~absurd (by simpa using h.2) hq
     ·omega
  ·have hq:¬ s.fs[i].ow=q:=by rw [<- hti];~hq
   dsimp only
   rw [t2]
   apply VN
   ·simp
   ·intro k h1 h2
    simp only [Uf] at h1
    simp only [Vw]
    &Qgb ?_
    constructor
    ·~λh=>⟨Oo,h.2⟩
    ·intro h
     &⟨?_,h.2⟩
     by_cases e:k=i
     ·subst e;~absurd h.2 hq
     ·omega
 ·ð⟨t1,t2⟩:=ht
  dsimp only
  rw [t1,t2]
  &⟨?_,?_⟩
  ·unfold Qcj
   apply VN
   ·simp
   ·intro a h1 h2
    simp only [Uf] at h1
    simp only [Vw]
    &Qgb (and_iff_right ?_)
    ~(VP Oo).2 Oo
  ·unfold QaT
   apply VN
   ·simp
   ·intro k h1 h2
    simp only [Uf] at h1
    simp only [Vw,Va]
    ~Qgb (and_iff_right h1)
structure EvS where
 s:Sp
 to:Inc
 mv:List Mov
noncomputable def cpyW(s:Sp)(a b:Int):Nat->List Int->List Int
 | 0,l=>l
 | n+1,l=>(cpyW s a b n l).set (GoR s b (n:Int)).1.toNat (((cpyW s a b n l)[(GoR s a (n:Int)).1.toNat]?).getD 0)
@[simp] theorem Qfz(s:Sp)(a b:Int)(l:List Int):∀ n,(cpyW s a b n l).length=l.length
 | 0=>rfl
 | n+1=>by unfold cpyW;rw [Wv];~Qfz s a b l n
theorem Qgj(s:Sp)(a b:Int)(n:Nat)(l:List Int):cpyW s a b (n+1) l=(cpyW s a b n l).set (GoR s b (n:Int)).1.toNat (((cpyW s a b n l)[(GoR s a (n:Int)).1.toNat]?).getD 0):=rfl
noncomputable def mvS(st:EvS)(a:Int)(r d:Int):EvS :=
 let g:Sp:=⟨st.s.sh,st.s.ws,Zd st.s st.to (1+r+d)⟩
 let j:=grw st.s st.to (1+r+d)
 let b:=(GoR g (j.first*2^st.s.sh.toNat) st.to.words).1
 ⟨⟨st.s.sh,(cpyW g a b (r+d+1).toNat st.s.ws).set a.toNat (fwdW b),g.fs⟩,j,st.mv++[⟨a,b⟩]⟩
noncomputable def mvA(st:EvS)(r d:Int):Int:=(GoR ⟨st.s.sh,st.s.ws,Zd st.s st.to (1+r+d)⟩ ((grw st.s st.to (1+r+d)).first*2^st.s.sh.toNat) st.to.words).1
noncomputable def mv1(l:List Inc)(st:EvS)(x:Int):EvS×Int:=open Classical in
 if QdJ st.s l x then
  if (JD (wAt st.s (x-1))).mv=true then (st,(JD (wAt st.s (x-1))).a+1)
  else (mvS st (x-1) (Qy st.s (x-1)).r (Qy st.s (x-1)).d,mvA st (Qy st.s (x-1)).r (Qy st.s (x-1)).d+1)
 else (st,x)
def evK(l:List Inc)(st:EvS):Qr:=⟨st.s,l,st.to,st.mv,0⟩
theorem grw_keep{s:Sp}(hs:ZL s){i:Inc}{fr:List Nat}(hi:QcE s i fr){n:Int}(hn:1<=n/\n<=48)(hf:exN s i n<=(Qk s.fs).length){frx:List Nat}(hc:Chn s.fs frx)(ho:Own s.fs frx)(hd:∀ k∈frx,k∉fr) :
  Chn (Zd s i n) frx/\Own (Zd s i n) frx:=by
 have g:=Qge hs hi hn hf
 have key:∀ k∈frx,∀ (h:k<s.fs.length) (h':k<(Zd s i n).length),(Zd s i n)[k]=s.fs[k]:=λk hk h h'=>by
  &g.other k h h' (hd k hk) λhm=>?_
  ð⟨_,h0⟩:=Qcz (VU hm)
  ~ho k hk h h0
 &⟨hc.congr g.len λk hk h h'=>by rw [key k hk h h'],λk hk h=>?_⟩
 have h1:k<s.fs.length:=by rw [<- g.len];~h
 rw [key k hk h1 h]
 ~ho k hk h1
structure SrcP(s:Sp)(fr:List Nat)(a:Int)(frx:List Nat)(p r d:Nat):Prop where
 a:a=((adr (szS s) frx p:Nat):Int)
 ch:Chn s.fs frx
 ow:Own s.fs frx
 dj:∀ k∈frx,k∉fr
 rm:p+r+d<frx.length*szS s
 r15:r<=15
 d32:d<=32
 hd:s.ws[adr (szS s) frx p]?=some (hdW r d)
structure MvP(l:List Inc)(st:EvS)(fr:List Nat)(x:Int):Prop where
 ok:ZL st.s
 w:SpW st.s
 i:QcE st.s st.to fr
 u:U64 x
 ll:l.length<=1000000
 ml:st.mv.length<=100000
 obj:QdJ st.s l x->(JD (wAt st.s (x-1))).e=0/\((JD (wAt st.s (x-1))).mv=false->∃ frx p r d,SrcP st.s fr (x-1) frx p r d/\exN st.s st.to (1+(r:Int)+d)<=(Qk st.s.fs).length)
theorem SrcP.look{s:Sp}{fr:List Nat}{a:Int}{frx:List Nat}{p r d:Nat}(hs:ZL s)(h:SrcP s fr a frx p r d):Qy s a=⟨r,d,0⟩:=by
 rw [h.a]
 ~(Qdo hs h.ch h.ow h.rm h.r15 h.d32 h.hd).1
theorem move_c{l:List Inc}{st:EvS}{fr:List Nat}{x:Int}(h:MvP l st fr x) :
  Zn (evK l st) x=some ((mv1 l st x).2,evK l (mv1 l st x).1,(mv1 l st x).1.s.ws,(mv1 l st x).1.s.fs,(mv1 l st x).1.mv):=by
 ð⟨hs,hW,hi,hx,hll,hml,hobj⟩:=h
 have hwl:=Z7 hs
 have hnx:=Ze hs.fm
 &Gd.eq ?_
 unfold Zn mv1
 &.pos rfl (.call (Qej hs l Oo hx) ?_)
 &.ite (λhw=>?_) λhw=>.some (by rw [if_neg λk=>hw (J5 k)];rfl)
 have hw:=QE.1 hw
 rw [if_pos hw]
 ð⟨he,hl⟩:=hobj hw
 ð⟨⟨w0,w1⟩,w2⟩:=hw
 unfold U64 at hx
 have e1:w64 (wu (x-1))=x-1:=by rw [Xv (n:=x-1) Oo,Qd Oo]
 have hxl:(x-1).toNat<st.s.ws.length:=by omega
 have hu:U64 (wAt st.s (x-1)):=QfH hW _
 have hdr:=DecR_rng hu
 show Gd _ (bndR ((at_ st.s.ws (w64 (wu (x-1)))).bind _) _)
 rw [e1]
 &Gd.bndR (P:=λz=>(z = .inl ()/\(JD (wAt st.s (x-1))).mv=false)\/(z = .inr ((JD (wAt st.s (x-1))).a+1,evK l st,st.s.ws,st.s.fs,st.mv)/\(JD (wAt st.s (x-1))).mv=true)) ?_ (λ_ hP=>?_) (λr hP=>?_)
 ·&.at Oo hxl ?_
  rw [<- QdL Oo hxl]
  &.call (decode_c hu) (.pos he (.ite (λhm=>.some (.inr ⟨?_,hm⟩)) λhm=>.some (.inl ⟨rfl,by simpa using hm⟩)))
  dsimp only
  rw [Qd (n:=(JD (wAt st.s (x-1))).a+1) Oo,Xv Oo]
  rfl
 ·obtain ⟨_,hm⟩ | ⟨h,_⟩:=hP
  ·rw [if_neg (by simp [hm])]
   ð⟨frx,p,r,d,src,hl2⟩:=hl hm
   have hlk:=src.look hs
   have r15:=src.r15
   have d32:=src.d32
   &.call (look_c hs.shp hnx hW (by unfold I64;omega)) ?_
   rw [hlk]
   &.pos rfl ?_
   dsimp only
   rw [Qd (n:=1+(r:Int)) Oo,Qd (n:=1+(r:Int)+d) Oo,Qd (n:=(r:Int)+d) Oo]
   have hn48:1<=1+(r:Int)+d/\1+(r:Int)+d<=48:=by omega
   have hgs:=grow_spec hs hi hn48
   rw [if_pos hl2] at hgs
   have hgk:=Qge hs hi hn48 hl2
   have hat:=hgk.at hs hi hn48 hl2
   have hb:mvA st r d=((adr (szS st.s) (fr++(Qk st.s.fs).take (exN st.s st.to (1+(r:Int)+d))) st.to.words.toNat:Nat):Int):=by unfold mvA;rw [hat]
   rw [<- hb] at hgs
   &.call hgs (.pos hgk.len (.pos rfl ?_))
   dsimp only
   have hshp:Qc4 ⟨st.s.sh,st.s.ws,Zd st.s st.to (1+(r:Int)+d)⟩:=hgk.sp.shp
   have hnx2:=Ze hgk.sp.fm
   have hwd:=hi.wd
   have hgi:st.to.words.toNat+1+r+d<=(fr++(Qk st.s.fs).take (exN st.s st.to (1+(r:Int)+d))).length*szS st.s:=by
    have:=(J7 hs.shp hi hn48).1
    rw [We,Wi,W7 hl2]
    omega
   have hgoB:∀ k:Nat,k<=r+d->GoR ⟨st.s.sh,st.s.ws,Zd st.s st.to (1+(r:Int)+d)⟩ (mvA st r d) (k:Int)=(((adr (szS st.s) (fr++(Qk st.s.fs).take (exN st.s st.to (1+(r:Int)+d))) (st.to.words.toNat+k):Nat):Int),0):=λk hk=>by
    rw [hb]
    ~go_k (s:=⟨st.s.sh,st.s.ws,Zd st.s st.to (1+(r:Int)+d)⟩) (k:=k) (p:=st.to.words.toNat) hshp hgk.inc.toIncC.ch hgk.inc.toIncC.own (by show _<_*szS st.s;omega)
   ð⟨hc2,ho2⟩:=grw_keep hs hi hn48 hl2 src.ch src.ow src.dj
   have hgoA:∀ k:Nat,k<=r+d->GoR ⟨st.s.sh,st.s.ws,Zd st.s st.to (1+(r:Int)+d)⟩ (x-1) (k:Int)=(((adr (szS st.s) frx (p+k):Nat):Int),0):=λk hk=>by
    rw [src.a]
    ~go_k (s:=⟨st.s.sh,st.s.ws,Zd st.s st.to (1+(r:Int)+d)⟩) (k:=k) (p:=p) hshp hc2 ho2 (by have:=src.rm;show _<_*szS st.s;omega)
   have hbl:mvA st r d<st.s.ws.length/\0<=mvA st r d:=by
    have h1:=hgoB 0 Oo
    have h2:=Qgr (s:=⟨st.s.sh,st.s.ws,Zd st.s st.to (1+(r:Int)+d)⟩) hshp hnx2 (a:=mvA st r d) (k:=((0:Nat):Int)) (by rw [h1])
    rw [h1] at h2
    dsimp only at h2
    rw [hb]
    simpa [and_comm] using h2
   &Gd.bind (P:=λb=>b=cpyW ⟨st.s.sh,st.s.ws,Zd st.s st.to (1+(r:Int)+d)⟩ (x-1) (mvA st r d) (r+d+1) st.s.ws) ?_ λb hbb=>?_
   ·&Gd.loop (λy:List Int×Int=>∃ k:Nat,y=(cpyW ⟨st.s.sh,st.s.ws,Zd st.s st.to (1+(r:Int)+d)⟩ (x-1) (mvA st r d) k st.s.ws,(k:Int))/\k<=r+d+1) _ (λy=>r+d+1-y.2.toNat) ⟨0,rfl,WT _⟩ ?_
    rintro y ⟨k,rfl,hk⟩
    dsimp only
    &.ite (λhlt=>?_) λhlt=>.out (by rw [show k=r+d+1 by omega])
    have hcl:(cpyW ⟨st.s.sh,st.s.ws,Zd st.s st.to (1+(r:Int)+d)⟩ (x-1) (mvA st r d) k st.s.ws).length=st.s.ws.length:=by simp
    have hsc:Qc4 ⟨st.s.sh,cpyW ⟨st.s.sh,st.s.ws,Zd st.s st.to (1+(r:Int)+d)⟩ (x-1) (mvA st r d) k st.s.ws,Zd st.s st.to (1+(r:Int)+d)⟩:=⟨hshp.sh,hshp.lo,hshp.hi,by rw [hcl];~hshp.wl⟩
    have eA:=GoR_ws (sh:=st.s.sh) (fs:=Zd st.s st.to (1+(r:Int)+d)) (a:=x-1) (k:=(k:Int)) hcl
    have eB:=GoR_ws (sh:=st.s.sh) (fs:=Zd st.s st.to (1+(r:Int)+d)) (a:=mvA st r d) (k:=(k:Int)) hcl
    have kA:=hgoA k Oo
    have kB:=hgoB k Oo
    &.call (go_c hsc hnx2 (by unfold I64;omega) (by unfold I64;omega)) (.call (go_c hsc hnx2 (by unfold I64;omega) (by unfold I64;omega)) ?_)
    rw [eA,eB]
    have rA:=Qgr (s:=⟨st.s.sh,st.s.ws,Zd st.s st.to (1+(r:Int)+d)⟩) hshp hnx2 (a:=x-1) (k:=(k:Int)) (by rw [kA])
    have rB:=Qgr (s:=⟨st.s.sh,st.s.ws,Zd st.s st.to (1+(r:Int)+d)⟩) hshp hnx2 (a:=mvA st r d) (k:=(k:Int)) (by rw [kB])
    dsimp only at rA rB
    &.at rA.1 (by rw [hcl];omega) (.at rB.1 (by rw [hcl];omega) ?_)
    rw [Qd (n:=(k:Int)+1) Oo]
    &.go ⟨k+1,?_,Oo⟩ (by dsimp only;omega)
    rw [Qgj,Wa (show (GoR ⟨st.s.sh,st.s.ws,Zd st.s st.to (1+(r:Int)+d)⟩ (x-1) (k:Int)).1.toNat<(cpyW ⟨st.s.sh,st.s.ws,Zd st.s st.to (1+(r:Int)+d)⟩ (x-1) (mvA st r d) k st.s.ws).length by rw [hcl];omega),WE]
    push_cast
    rfl
   ·subst hbb
    &.call (forward_c ⟨hbl.2,Oo⟩) ?_
    &.at Oo (by rw [Qfz];~hxl) ?_
    &.pos (X9 (l:=st.mv) Oo Oo) (.some ?_)
    rw [Qd (n:=mvA st r d+1) Oo,Xv (n:=mvA st r d+1) Oo]
    have e3:((r:Int)+d+1).toNat=r+d+1:=by omega
    have e4:(mvS st (x-1) r d)=⟨⟨st.s.sh,(cpyW ⟨st.s.sh,st.s.ws,Zd st.s st.to (1+(r:Int)+d)⟩ (x-1) (mvA st r d) (r+d+1) st.s.ws).set (x-1).toNat (fwdW (mvA st r d)),Zd st.s st.to (1+(r:Int)+d)⟩,grw st.s st.to (1+(r:Int)+d),st.mv++[⟨x-1,mvA st r d⟩]⟩:=by
     unfold mvS
     dsimp only
     rw [e3]
     rfl
    rw [e4]
    rfl
  ·cases h
 ·obtain ⟨h,_⟩ | ⟨h,hm⟩:=hP
  ·cases h
  ·injection h with h
   rw [if_pos hm,h]
theorem pair_cases{α:Type}{R:α->α->Prop}:∀ {l:List α},l.Pairwise R->∀ x∈l,∀ y∈l,x=y\/R x y\/R y x
 | [],_,x,hx,_,_=>by cases hx
 | a :: l,h,x,hx,y,hy=>by
  ð⟨h1,h2⟩:=Vs.1 h
  rcases Wt.1 hx with e1 | m1
  ·rcases Wt.1 hy with e2 | m2
   ·~.inl (e1.trans e2.symm)
   ·~.inr (.inl (e1▸h1 y m2))
  ·rcases Wt.1 hy with e2 | m2
   ·~.inr (.inr (e2▸h1 x m1))
   ·~pair_cases h2 x m1 y m2
theorem obs_ge:∀ {l:List (Nat×Nat)} {p:Nat} {o:Nat×Nat×Nat},o∈obs p l->p<=o.1
 | [],p,o,h=>by cases h
 | (r,d) :: l,p,o,h=>by
  rcases Wt.1 h with rfl | h
  ·~Wl _
  ·have:=obs_ge h;omega
theorem obs_sep:∀ {l:List (Nat×Nat)} {p:Nat} {o o':Nat×Nat×Nat},o∈obs p l->o'∈obs p l->o=o'\/o.1+1+o.2.1+o.2.2<=o'.1\/o'.1+1+o'.2.1+o'.2.2<=o.1
 | [],p,o,o',h,_=>by cases h
 | (r,d) :: l,p,o,o',h,h'=>by
  rcases Wt.1 h with rfl | h
  ·rcases Wt.1 h' with rfl | h'
   ·~.inl rfl
   ·~.inr (.inl (obs_ge h'))
  ·rcases Wt.1 h' with rfl | h'
   ·~.inr (.inr (obs_ge h))
   ·~obs_sep h h'
def nob:Nat->List (Nat×Nat×Nat)->List (Nat×Nat×Nat×Nat)
 | _,[]=>[]
 | p,(a,r,d) :: M=>(a,p,r,d) :: nob (p+1+r+d) M
def szM:List (Nat×Nat×Nat)->Nat
 | []=>0
 | (_,r,d) :: M=>1+r+d+szM M
theorem szM_snoc:∀ (M:List (Nat×Nat×Nat)) (a r d:Nat),szM (M++[(a,r,d)])=szM M+1+r+d
 | [],a,r,d=>by simp [szM]
 | (b,r',d') :: M,a,r,d=>by
  show 1+r'+d'+szM (M++[(a,r,d)])=1+r'+d'+szM M+1+r+d
  rw [szM_snoc M];omega
theorem nob_snoc:∀ (M:List (Nat×Nat×Nat)) (p a r d:Nat),nob p (M++[(a,r,d)])=nob p M++[(a,p+szM M,r,d)]
 | [],p,a,r,d=>by simp [nob,szM]
 | (b,r',d') :: M,p,a,r,d=>by
  show (b,p,r',d') :: nob (p+1+r'+d') (M++[(a,r,d)])=(b,p,r',d') :: (nob (p+1+r'+d') M++[(a,p+(1+r'+d'+szM M),r,d)])
  rw [nob_snoc M,show p+1+r'+d'+szM M=p+(1+r'+d'+szM M) by omega]
theorem Qeq:∀ (M:List (Nat×Nat×Nat)) (p:Nat),(nob p M).length=M.length
 | [],p=>rfl
 | (b,r',d') :: M,p=>by show (nob _ M).length+1=_;rw [Qeq M];rfl
theorem nob_fst:∀ (M:List (Nat×Nat×Nat)) (p:Nat),(nob p M).map (·.1)=M.map (·.1)
 | [],p=>rfl
 | (b,r',d') :: M,p=>by show b :: (nob _ M).map (·.1)=_;rw [nob_fst M];rfl
theorem QfX:∀ (M:List (Nat×Nat×Nat)) (p:Nat),∀ o∈nob p M,(o.1,o.2.2)∈M
 | [],p,o,h=>by cases h
 | (b,r',d') :: M,p,o,h=>by
  rcases Wt.1 h with rfl | h
  ·~WA ..
  ·~Wm _ (QfX M _ o h)
theorem J4:∀ (M:List (Nat×Nat×Nat)) (p:Nat),∀ o∈nob p M,p<=o.2.1/\o.2.1+1+o.2.2.1+o.2.2.2<=p+szM M
 | [],p,o,h=>by cases h
 | (b,r',d') :: M,p,o,h=>by
  rcases Wt.1 h with rfl | h
  ·~⟨Wl _,by show p+1+r'+d'<=p+(1+r'+d'+szM M);omega⟩
  ·have:=J4 M _ o h
   ~⟨Oo,by show _<=p+(1+r'+d'+szM M);omega⟩
theorem nob_sep:∀ (M:List (Nat×Nat×Nat)) (p:Nat),(nob p M).Pairwise λo o'=>o.2.1+1+o.2.2.1+o.2.2.2<=o'.2.1
 | [],p=>.nil
 | (b,r',d') :: M,p=>by
  &Vs.2 ⟨λo ho=>(J4 M _ o ho).1,nob_sep M _⟩
theorem obs_map:∀ (M:List (Nat×Nat×Nat)) (p:Nat),obs p (M.map (·.2))=(nob p M).map (·.2)
 | [],p=>rfl
 | (b,r',d') :: M,p=>by show (p,r',d') :: obs (p+1+r'+d') (M.map (·.2))=_;rw [obs_map M];rfl
theorem obs_append:∀ (l:List (Nat×Nat)) (m:List (Nat×Nat)) (p q:Nat) (z:Nat) (ws:List Int) (fr:List Nat),Lay z ws fr p l q->obs p (l++m)=obs p l++obs q m
 | [],m,p,q,z,ws,fr,h=>by cases h;rfl
 | (r,d) :: l,m,p,q,z,ws,fr,h=>by
  show (p,r,d) :: obs (p+1+r+d) (l++m)=(p,r,d) :: (obs (p+1+r+d) l++obs q m)
  rw [obs_append l m _ q z ws fr h.2.2.2]
def ObjZ(z:Nat)(L:List Itm)(a r d:Nat):Prop:=∃ x∈L,∃ p,(p,r,d)∈obs 0 x.os/\a=adr z x.fr p
def allO(z:Nat)(L:List Itm):List (Nat×Nat×Nat):=L.flatMap λx=>(obs 0 x.os).map λo=>(adr z x.fr o.1,o.2)
theorem objZ_iff{z:Nat}{L:List Itm}{a r d:Nat}:ObjZ z L a r d<->(a,r,d)∈allO z L:=by
 unfold ObjZ allO
 rw [Up]
 constructor
 ·rintro ⟨x,hx,p,hp,rfl⟩
  ~⟨x,hx,Wk.2 ⟨(p,r,d),hp,rfl⟩⟩
 ·rintro ⟨x,hx,h⟩
  ð⟨⟨p,r',d'⟩,hp,e⟩:=Wk.1 h
  injection e with e1 e2
  injection e2 with e2 e3
  subst e2;subst e3
  ~⟨x,hx,p,hp,e1.symm⟩
theorem sub_sum:∀ (M A:List (Nat×Nat×Nat)),M.Nodup->(∀ o∈M,o∈A)->szM M<=szM A
 | [],A,_,_=>WT _
 | o :: M,A,hn,hs=>by
  ð⟨A1,A2,rfl⟩:=List.append_of_mem (hs o (WA ..))
  have h1:=Uu.1 hn
  have h2:=sub_sum M (A1++A2) h1.2 λq hq=>by
   have:=hs q (Wm _ hq)
   rcases Wn.1 this with h | h
   ·~Wf _ h
   ·rcases Wt.1 h with rfl | h
    ·~absurd hq h1.1
    ·~Wj _ h
  have e:∀ (A1 A2:List (Nat×Nat×Nat)),szM (A1++A2)=szM A1+szM A2:=by
   intro A1
   induction A1 with
   | nil=>intro A2;simp [szM]
   | cons a l ih=>intro A2;ð⟨a,r,d⟩:=a;show 1+r+d+szM (l++A2)=1+r+d+szM l+szM A2;rw [ih];omega
  rw [e] at h2 ⊢
  ð⟨a,r,d⟩:=o
  show 1+r+d+szM M<=szM A1+(1+r+d+szM A2)
  omega
theorem szM_append:∀ (A1 A2:List (Nat×Nat×Nat)),szM (A1++A2)=szM A1+szM A2
 | [],A2=>by simp [szM]
 | (a,r,d) :: l,A2=>by show 1+r+d+szM (l++A2)=1+r+d+szM l+szM A2;rw [szM_append l];omega
theorem szM_lay{z:Nat}{ws:List Int}{fr:List Nat}:∀ {l:List (Nat×Nat)} {p q:Nat},Lay z ws fr p l q->p+szM ((obs p l).map λo=>(adr z fr o.1,o.2))=q
 | [],p,q,h=>by show p+0=q;~h
 | (r,d) :: l,p,q,h=>by
  have:=szM_lay h.2.2.2
  show p+(1+r+d+szM ((obs (p+1+r+d) l).map λo=>(adr z fr o.1,o.2)))=q
  omega
def sumN(C:List Itm):Nat:=(C.map λx=>x.i.words.toNat).sum
theorem szM_all{s:Sp}:∀ {C:List Itm},(∀ x∈C,QaC s x)->szM (allO (szS s) C)=sumN C
 | [],_=>rfl
 | x :: C,h=>by
  have h1:=szM_all (C:=C) λy hy=>h y (Wm _ hy)
  have h2:=szM_lay (h x (WA ..)).lay
  unfold allO at h1 ⊢
  rw [VJ,szM_append,h1]
  unfold sumN
  rw [Vg,UK]
  omega
theorem cpyW_get{s:Sp}{a b:Int}{A B:Nat->Nat}{l:List Int}:∀ (n:Nat),(∀ k,k<n->(GoR s a (k:Int)).1.toNat=A k)->(∀ k,k<n->(GoR s b (k:Int)).1.toNat=B k)->(∀ k,k<n->A k<l.length)->(∀ k,k<n->B k<l.length) ->
  (∀ j k,j<n->k<n->B j=B k->j=k)->(∀ j k,j<n->k<n->A j≠B k) ->
  (∀ k,k<n->(cpyW s a b n l)[B k]?=l[A k]?)/\∀ x,(∀ k,k<n->x≠B k)->(cpyW s a b n l)[x]?=l[x]?
 | 0,_,_,_,_,_,_=>⟨λk h=>absurd h (WZ _),λx _=>rfl⟩
 | n+1,hA,hB,lA,lB,hi,hd=>by
  ð⟨h1,h2⟩:=cpyW_get n (λk h=>hA k Oo) (λk h=>hB k Oo) (λk h=>lA k Oo) (λk h=>lB k Oo) (λj k h1 h2=>hi j k Oo Oo) λj k h1 h2=>hd j k Oo Oo
  have hAn:(cpyW s a b n l)[A n]?=l[A n]?:=h2 _ λk hk=>hd n k Oo Oo
  rw [Qgj,hA n Oo,hB n Oo,hAn,Wa (lA n Oo),WE]
  &⟨λk hk=>?_,λx hx=>?_⟩
  ·by_cases e:B k=B n
   ·obtain rfl:=hi k n hk Oo e
    rw [WD (by rw [Qfz];~lB k Oo),Wa (lA k Oo)]
   ·rw [WC (λh=>e h.symm)]
    ~h1 k (by
     rcases Ws k n with h | h
     ·~h
     ·~absurd (by rw [show k=n by omega]) e)
  ·rw [WC (λh=>hx n Oo h.symm)]
   ~h2 x λk hk=>hx k Oo
theorem cpyW_all{s:Sp}{a b:Int}{p:Int->Prop}{l:List Int}(h:∀ x∈l,p x)(h0:p 0):∀ n,∀ x∈cpyW s a b n l,p x
 | 0=>h
 | n+1=>λx hx=>by
  rw [Qgj] at hx
  rcases W4 hx with hx | rfl
  ·~cpyW_all h h0 n x hx
  ·cases hg:(cpyW s a b n l)[(GoR s a (n:Int)).1.toNat]? with
   | none=>~h0
   | some y=>~cpyW_all h h0 n y (Wp hg)
theorem IncC.keep{fs fs':List Fe}{i:Inc}{fr:List Nat}(h:IncC fs i fr)(hl:fs'.length=fs.length){D:Nat->Prop}(hd:∀ k (h:k<fs.length) (h':k<fs'.length),¬ D k->fs'[k]=fs[k])(hD:∀ k (h':k<fs'.length),D k->k∉fr/\fs'[k].ow≠i.seq):IncC fs' i fr:=by
 have hin:∀ k∈fr,∀ (h:k<fs.length) (h':k<fs'.length),fs'[k]=fs[k]:=λk hk h1 h2=>hd k h1 h2 λc=>(hD k h2 c).1 hk
 &⟨h.sq,h.bl,h.ch.congr hl λk hk h1 h2=>by rw [hin k hk h1 h2],h.nd,λk hk=>?_,λk hk hf=>?_,h.first,h.last⟩
 ·have h1:k<fs.length:=by omega
  by_cases c:D k
  ·have:=hD k hk c
   ~⟨λe=>absurd e this.2,λe=>absurd e this.1⟩
  ·rw [hd k h1 hk c];~h.ow k h1
 ·rw [hin k hf Oo hk];~h.st k Oo hf
theorem adr_fr{z:Nat}{fr:List Nat}{p:Nat}(hz:0<z)(hp:p<fr.length*z):adr z fr p/z∈fr:=by
 have h1:p/z<fr.length:=(VP hz).2 hp
 rw [(Qdy hz fr p).1,Wa h1]
 ~Wc h1
theorem Qf8{fs:List Fe}{C:List Itm}(h:∀ x∈C,IncC fs x.i x.fr){k:Nat}:isC fs (C.map Itm.i) k=true<->∃ x∈C,k∈x.fr:=by
 rw [Qf7]
 constructor
 ·rintro ⟨hk,hm⟩
  rw [W3] at hm
  ð⟨x,hx,e⟩:=Wk.1 hm
  ~⟨x,hx,((h x hx).ow k hk).1 e.symm⟩
 ·rintro ⟨x,hx,hm⟩
  have hk:=(h x hx).ch.lt k hm
  &⟨hk,?_⟩
  rw [W3]
  ~Wk.2 ⟨x,hx,(((h x hx).ow k hk).2 hm).symm⟩
noncomputable def srcA(s0:Sp)(a k:Nat):Nat:=(GoR s0 (a:Int) (k:Int)).1.toNat
def ImgP(s0:Sp)(C:List Itm)(mv:List Mov)(w v:Int):Prop:=(¬ QdJ s0 (C.map Itm.i) w/\v=w)\/(QdJ s0 (C.map Itm.i) w/\∃ m∈mv,m.frm=w-1/\v=m.to+1)
theorem ImgP.mono{s0:Sp}{C:List Itm}{mv mv':List Mov}{w v:Int}(h:ImgP s0 C mv w v)(hs:∀ m∈mv,m∈mv'):ImgP s0 C mv' w v:=by
 rcases h with h | ⟨h,m,hm,k⟩
 ·~.inl h
 ·~.inr ⟨h,m,hs m hm,k⟩
def RefOk(s0:Sp)(C:List Itm)(w:Int):Prop:=QdJ s0 (C.map Itm.i) w->∃ r d,ObjZ (szS s0) C (w-1).toNat r d
def sumF(s:Sp)(C:List Itm):Int:=(C.map λx=>clN s x.i.words).sum
structure EvB(s0:Sp)(C K:List Itm)(T0:Itm):Prop where
 ok:ZL s0
 w:SpW s0
 cs:∀ x∈C,QaC s0 x
 ks:∀ x∈K,QaC s0 x
 t0:QaC s0 T0
 sqT:∀ x∈C++K,x.i.seq≠T0.i.seq
 sqK:∀ x∈C,∀ y∈K,x.i.seq≠y.i.seq
 sqC:∀ x∈C++K,∀ y∈C++K,x.i.seq=y.i.seq->x=y
 own:∀ k (h:k<s0.fs.length),¬ s0.fs[k].ow = -1->k∈T0.fr\/∃ x∈C++K,k∈x.fr
 refs:∀ x∈C,∀ p r d,(p,r,d)∈obs 0 x.os->∀ k,1<=k->k<=r->∀ w,s0.ws[adr (szS s0) x.fr (p+k)]?=some w->RefOk s0 C w
 len:C.length<=1000000
 nd:C.Nodup
structure EvC(s0:Sp)(C K:List Itm)(T0:Itm):Prop extends EvB s0 C K T0 where
 need:sumF s0 C<=(Qk s0.fs).length
def QfZ(z:Nat)(fr:List Nat)(p:Nat)(M:List (Nat×Nat×Nat)):List Mov:=(nob p M).map λo=>⟨(o.1:Int),((adr z fr o.2.1:Nat):Int)⟩
structure J1(s0:Sp)(C K:List Itm)(T0:Itm)(sn sk:Nat)(st:EvS)(T:Itm)(M:List (Nat×Nat×Nat)):Prop where
 sh:st.s.sh=s0.sh
 wl:st.s.ws.length=s0.ws.length
 fl:st.s.fs.length=s0.fs.length
 ok:ZL st.s
 w:SpW st.s
 to:st.to=T.i
 fr:∃ m,T.fr=T0.fr++(Qk s0.fs).take m/\Qk st.s.fs=(Qk s0.fs).drop m
 inc:QcE st.s T.i T.fr
 sq:T.i.seq=T0.i.seq/\T.i.belt=T0.i.belt/\T.i.words=((T0.i.words.toNat+szM M:Nat):Int)
 os:T.os=T0.os++M.map (·.2)
 mv:st.mv=QfZ (szS s0) T.fr T0.i.words.toNat M
 oth:∀ x∈C++K,IncC st.s.fs x.i x.fr
 own:∀ k (h:k<st.s.fs.length),¬ st.s.fs[k].ow = -1->k∈T.fr\/∃ x∈C++K,k∈x.fr
 src:∀ o∈M,ObjZ (szS s0) C o.1 o.2.1 o.2.2
 nd:(M.map (·.1)).Nodup
 cw:∀ x∈C,∀ p,p<x.fr.length*szS s0->adr (szS s0) x.fr p∉M.map (·.1)->st.s.ws[adr (szS s0) x.fr p]?=s0.ws[adr (szS s0) x.fr p]?
 cf:∀ o∈nob T0.i.words.toNat M,st.s.ws[o.1]?=some (fwdW ((adr (szS s0) T.fr o.2.1:Nat):Int))
 kw:∀ x∈K,∀ p,p<x.fr.length*szS s0->st.s.ws[adr (szS s0) x.fr p]?=s0.ws[adr (szS s0) x.fr p]?
 tw:∀ p,p<T0.i.words.toNat->st.s.ws[adr (szS s0) T.fr p]?=s0.ws[adr (szS s0) T.fr p]?
 hd:∀ o∈nob T0.i.words.toNat M,st.s.ws[adr (szS s0) T.fr o.2.1]?=some (hdW o.2.2.1 o.2.2.2)
 dat:∀ o∈nob T0.i.words.toNat M,∀ k,o.2.2.1<k->k<=o.2.2.1+o.2.2.2->st.s.ws[adr (szS s0) T.fr (o.2.1+k)]?=s0.ws[srcA s0 o.1 k]?
 ref:∀ n o,(nob T0.i.words.toNat M)[n]?=some o->∀ k,1<=k->k<=o.2.2.1 ->
  if n<sn\/(n=sn/\k<=sk) then ∃ w v,s0.ws[srcA s0 o.1 k]?=some w/\st.s.ws[adr (szS s0) T.fr (o.2.1+k)]?=some v/\ImgP s0 C st.mv w v
  else st.s.ws[adr (szS s0) T.fr (o.2.1+k)]?=s0.ws[srcA s0 o.1 k]?
def QdV(z n:Nat):Nat:=(n+z-1)/z
theorem QfC{z:Nat}(hz:0<z)(n:Nat):n<=QdV z n*z:=by
 have:=(VP (x:=n+z-1) (y:=QdV z n+1) hz).1 (Nat.lt_succ_self _)
 rw [Vv,UX] at this
 omega
theorem ceilN_of{z:Nat}(hz:0<z){n c:Nat}(h:n<=c*z):QdV z n<=c:=by
 have:=(VP (x:=n+z-1) (y:=c+1) hz).2 (by rw [Vv,UX];omega)
 show (n+z-1)/z<=c
 omega
theorem Qgo{z:Nat}(hz:0<z)(a b:Nat):QdV z (a+b)<=QdV z a+QdV z b:=by
 &ceilN_of hz ?_
 rw [Vv]
 have:=QfC hz a
 have:=QfC hz b
 omega
theorem ceilN_mono{z:Nat}(hz:0<z){a b:Nat}(h:a<=b):QdV z a<=QdV z b:=by
 &ceilN_of hz ?_
 have:=QfC hz b
 omega
theorem Qb3{s:Sp}(hs:Qco s.sh){n:Int}(h:0<=n/\n<=1099511627776):clN s n=(QdV (szS s) n.toNat:Nat):=by
 have:=Qb2 hs (n:=n.toNat) Oo
 rw [show ((n.toNat:Nat):Int)=n by omega] at this
 ~this
theorem ceil_sum{s:Sp}(hs:ZL s):∀ {C:List Itm},(∀ x∈C,QaC s x)->(QdV (szS s) (sumN C):Int)<=sumF s C
 | [],_=>by
  have hz:=(Jm hs.shp.sh).2.2.1
  have:QdV (szS s) (sumN [])<=0:=ceilN_of Oo (by simp [sumN])
  simp [sumF];omega
 | x :: C,h=>by
  have hz:=(Jm hs.shp.sh).2.2.1
  have h1:=ceil_sum hs (C:=C) λy hy=>h y (Wm _ hy)
  have hw:=(h x (WA ..)).inc.wd
  have hwl:=Z7 hs
  have h2:=Qb3 hs.shp.sh (n:=x.i.words) ⟨Oo,Oo⟩
  have h3:=Qgo (z:=szS s) Oo x.i.words.toNat (sumN C)
  have e1:sumN (x :: C)=x.i.words.toNat+sumN C:=by unfold sumN;rw [Vg,UK]
  have e2:sumF s (x :: C)=clN s x.i.words+sumF s C:=by unfold sumF;rw [Vg,UK]
  rw [e1,e2,h2]
  omega
theorem QcE.room{s:Sp}(hs:ZL s){i:Inc}{fr:List Nat}(h:QcE s i fr):i.words.toNat<=fr.length*szS s:=by
 have hz:=(Jm hs.shp.sh).2.2.1
 have hwl:=Z7 hs
 have hw:=h.wd
 have h1:=h.len
 rw [Qb3 hs.shp.sh ⟨Oo,Oo⟩] at h1
 have:=QfC (z:=szS s) Oo i.words.toNat
 rw [show fr.length=QdV (szS s) i.words.toNat by omega]
 ~this
theorem Itm.posOk{s:Sp}(hs:ZL s){x:Itm}(hx:QaC s x){p r d:Nat}(h:(p,r,d)∈obs 0 x.os):p+r+d<x.fr.length*szS s/\r<=15/\d<=32/\s.ws[adr (szS s) x.fr p]?=some (hdW r d):=by
 have hg:=hx.lay.get _ h
 have hr:=hx.inc.room hs
 dsimp only at hg
 ~⟨Oo,hg.2.2.1,hg.2.2.2.1,hg.2.2.2.2⟩
section
variable{s0:Sp}{C K:List Itm}{T0:Itm}{sn sk:Nat}{st:EvS}{T:Itm}{M:List (Nat×Nat×Nat)}
theorem J1.z(h:J1 s0 C K T0 sn sk st T M):szS st.s=szS s0:=by unfold szS;rw [h.sh]
theorem EvB.z0(hC:EvB s0 C K T0):8<=szS s0:=(Jm hC.ok.shp.sh).2.2.1
theorem ev_isC(hC:EvB s0 C K T0)(h:J1 s0 C K T0 sn sk st T M)(k:Nat):isC st.s.fs (C.map Itm.i) k=isC s0.fs (C.map Itm.i) k:=by
 have h1:=Qf8 (k:=k) λx hx=>h.oth x (Wf _ hx)
 have h2:=Qf8 (k:=k) λx hx=>(hC.cs x hx).inc.toIncC
 cases e1:isC st.s.fs (C.map Itm.i) k <;> cases e2:isC s0.fs (C.map Itm.i) k
 ·rfl
 ·rw [h1.2 (h2.1 e2)] at e1;cases e1
 ·rw [h2.2 (h1.1 e1)] at e2;cases e2
 ·rfl
theorem ev_win(hC:EvB s0 C K T0)(h:J1 s0 C K T0 sn sk st T M)(x:Int):QdJ st.s (C.map Itm.i) x<->QdJ s0 (C.map Itm.i) x:=by
 unfold QdJ X7
 rw [h.wl,h.z,ev_isC hC h]
theorem QcB(h:J1 s0 C K T0 sn sk st T M):T0.i.words.toNat+szM M<=T.fr.length*szS s0:=by
 have:=h.inc.room h.ok
 rw [h.z,h.sq.2.2] at this
 omega
theorem ev_sum(hC:EvB s0 C K T0){M:List (Nat×Nat×Nat)}(hs:∀ o∈M,ObjZ (szS s0) C o.1 o.2.1 o.2.2)(hn:(M.map (·.1)).Nodup):szM M<=sumN C:=by
 rw [<- szM_all hC.cs]
 &sub_sum M _ ?_ λo ho=>objZ_iff.1 (hs o ho)
 rw [Vh] at hn ⊢
 rw [Vc] at hn
 ~hn.imp λh e=>h (by rw [e])
theorem sumN_le(hC:EvC s0 C K T0):QdV (szS s0) (sumN C)<=(Qk s0.fs).length:=by
 have h1:=ceil_sum hC.ok hC.cs
 have h2:=hC.need
 omega
theorem free_le(fs:List Fe):(Qk fs).length<=fs.length:=by
 have:=W8 (isFr fs) (List.range fs.length)
 rw [WV] at this
 ~this
theorem sumN_16(hC:EvB s0 C K T0):sumN C<=16384:=by
 ð⟨g1,g2,g3,g4,g5⟩:=Jm hC.ok.shp.sh
 have h3:=hC.ok.shp.hi
 have key:∀ D:List Itm,D.Nodup->(∀ x∈D,x∈C)->sumN D<=(D.flatMap Itm.fr).length*szS s0/\(D.flatMap Itm.fr).Nodup/\∀ k∈D.flatMap Itm.fr,k<s0.fs.length:=by
  intro D
  induction D with
  | nil=>~λ_ _=>⟨by simp [sumN],Os,λk hk=>absurd hk Os⟩
  | cons x D ih =>
   intro hn hs
   rw [Uu] at hn
   ð⟨i1,i2,i3⟩:=ih hn.2 λy hy=>hs y (Wm _ hy)
   have hx:=(hC.cs x (hs x (WA ..))).inc
   have hr:=hx.room hC.ok
   rw [VJ]
   &⟨?_,?_,λk hk=>?_⟩
   ·rw [We,Vv]
    have:sumN (x :: D)=x.i.words.toNat+sumN D:=by unfold sumN;rw [Vg,UK]
    omega
   ·rw [Um]
    &⟨hx.toIncC.nd,i2,λa ha b hb e=>?_⟩
    subst e
    ð⟨y,hy,hyb⟩:=Up.1 hb
    have hyi:=(hC.cs y (hs y (Wm _ hy))).inc
    &hx.toIncC.disj hyi.toIncC (λe=>?_) _ ha hyb
    have:=hC.sqC x (Wf _ (hs x (WA ..))) y (Wf _ (hs y (Wm _ hy))) e
    ~hn.1 (this▸hy)
   ·rcases Wn.1 hk with hk | hk
    ·~hx.toIncC.ch.lt k hk
    ·~i3 k hk
 ð⟨k1,k2,k3⟩:=key C hC.nd λ_ h=>h
 have k4:=QdS k2 k3
 have h5:(C.flatMap Itm.fr).length*szS s0<=64*256:=V1 Oo g4
 omega
theorem ev_budget(hC:EvC s0 C K T0)(h:J1 s0 C K T0 sn sk st T M){a r d:Nat}(ho:ObjZ (szS s0) C a r d)(hn:a∉M.map (·.1))(hr:r<=15)(hd:d<=32):exN st.s T.i (1+(r:Int)+d)<=(Qk st.s.fs).length:=by
 have hz:=hC.toEvB.z0
 have h16:=sumN_16 hC.toEvB
 have hsum:=ev_sum hC.toEvB (M:=M++[(a,r,d)]) (λo hm=>by
  rcases Wn.1 hm with hm | hm
  ·~h.src o hm
  ·rw [Wo.1 hm];~ho) (by
  rw [WH,Um]
  &⟨h.nd,Os,λx hx y hy=>?_⟩
  rw [Ya,Wo] at hy
  rintro rfl
  rw [hy] at hx
  ~hn hx)
 rw [szM_snoc] at hsum
 ð⟨m,e1,e2⟩:=h.fr
 have hw:=h.inc.wd
 have hwl:=Z7 h.ok
 have hlen:=h.inc.len
 have hw0:=hC.t0.inc.wd
 have hwl0:=Z7 hC.ok
 have hlen0:=hC.t0.inc.len
 have hsq:=h.sq.2.2
 rw [Qb3 h.ok.shp.sh ⟨Oo,Oo⟩,h.z] at hlen
 rw [Qb3 hC.ok.shp.sh ⟨Oo,Oo⟩] at hlen0
 have hex:=(exN_ok h.ok.shp hw (n:=1+(r:Int)+d) ⟨Oo,Oo⟩).1
 rw [Qb3 h.ok.shp.sh ⟨Oo,Oo⟩,Qb3 h.ok.shp.sh ⟨Oo,Oo⟩,h.z] at hex
 have k1:=Qgo (z:=szS s0) Oo T0.i.words.toNat (szM M+1+r+d)
 have k2:=ceilN_mono (z:=szS s0) Oo hsum
 have k3:=sumN_le hC
 have e3:(T.i.words+(1+(r:Int)+d)).toNat=T0.i.words.toNat+(szM M+1+r+d):=by omega
 rw [e3] at hex
 have e4:=congrArg List.length e1
 have e5:=congrArg List.length e2
 rw [We,Wi] at e4
 rw [Ww] at e5
 omega
theorem head_ne(hC:EvB s0 C K T0){y:Itm}(hy:y∈C){p r d k:Nat}(ho:(p,r,d)∈obs 0 y.os)(h1:1<=k)(h2:k<=r+d){a r' d':Nat}(hz:ObjZ (szS s0) C a r' d'):adr (szS s0) y.fr (p+k)≠a:=by
 ð⟨x,hx,q,hq,rfl⟩:=hz
 have hz0:=hC.z0
 have hy1:=(hC.cs y hy)
 have hx1:=(hC.cs x hx)
 have b1:=Itm.posOk hC.ok hy1 ho
 have b2:=Itm.posOk hC.ok hx1 hq
 intro e
 by_cases hs:x.i.seq=y.i.seq
 ·obtain rfl:=hC.sqC x (Wf _ hx) y (Wf _ hy) hs
  have:=Qbr Oo hx1.inc.nd (p:=p+k) (q:=q) Oo Oo e
  rcases obs_sep ho hq with h | h | h
  ·injection h with h _;omega
  ·dsimp only at h;omega
  ·dsimp only at h;omega
 ·~QeQ Oo (hy1.inc.toIncC.disj hx1.inc.toIncC λh=>hs h.symm) (p:=p+k) (q:=q) Oo Oo e
theorem srcA_at(hC:EvB s0 C K T0){y:Itm}(hy:y∈C){p r d k:Nat}(ho:(p,r,d)∈obs 0 y.os)(hk:k<=r+d):srcA s0 (adr (szS s0) y.fr p) k=adr (szS s0) y.fr (p+k):=by
 have hy1:=(hC.cs y hy)
 have b1:=Itm.posOk hC.ok hy1 ho
 unfold srcA
 rw [go_k (k:=k) hC.ok.shp hy1.inc.ch hy1.inc.own Oo]
 rfl
end
theorem U64_fwd{b:Int}(h:0<=b/\b<16384):U64 (fwdW b):=by unfold U64 fwdW;omega
theorem movs_app{z:Nat}(hz:0<z){fr l:List Nat}{p:Nat}{M:List (Nat×Nat×Nat)}(h:p+szM M<=fr.length*z):QfZ z (fr++l) p M=QfZ z fr p M:=by
 unfold QfZ
 &WW λo ho=>?_
 have:=J4 M p o ho
 rw [Xg hz Oo]
set_option maxHeartbeats 1000000 in
theorem ev_new{s0:Sp}{C K:List Itm}{T0:Itm}{sn sk:Nat}{s:Sp}{mv:List Mov}{T:Itm}{M:List (Nat×Nat×Nat)}(hC:EvB s0 C K T0)(h:J1 s0 C K T0 sn sk ⟨s,T.i,mv⟩ T M)(hsn:sn<=M.length/\(sk=0\/sn<M.length)){y:Itm}(hy:y∈C){p r d:Nat}(ho:(p,r,d)∈obs 0 y.os)
  (hn:adr (szS s0) y.fr p∉M.map (·.1))(hl2:exN s T.i (1+(r:Int)+d)<=(Qk s.fs).length) :
  let n:Int:=1+(r:Int)+d
  let T':Itm:=⟨grw s T.i n,T.fr++(Qk s.fs).take (exN s T.i n),T.os++[(r,d)]⟩
  SrcP s T.fr ((adr (szS s0) y.fr p:Nat):Int) y.fr p r d/\exN s T.i n<=(Qk s.fs).length/\J1 s0 C K T0 sn sk (mvS ⟨s,T.i,mv⟩ ((adr (szS s0) y.fr p:Nat):Int) r d) T' (M++[(adr (szS s0) y.fr p,r,d)]) /\
   mvA ⟨s,T.i,mv⟩ r d=((adr (szS s0) T'.fr (T0.i.words.toNat+szM M):Nat):Int)/\mvA ⟨s,T.i,mv⟩ r d<16384:=by
 intro n T'
 have hok:ZL s:=h.ok
 have hsw:SpW s:=h.w
 have hinc:QcE s T.i T.fr:=h.inc
 have hoth:∀ x∈C++K,IncC s.fs x.i x.fr:=h.oth
 have hz:=hC.z0
 have ez:szS s=szS s0:=h.z
 have hy1:=hC.cs y hy
 ð⟨hrm,r15,d32,hhd⟩:=Itm.posOk hC.ok hy1 ho
 have hyo:=hoth y (Wf _ hy)
 have hoz:ObjZ (szS s0) C (adr (szS s0) y.fr p) r d:=⟨y,hy,p,ho,rfl⟩
 replace hl2:exN s T.i n<=(Qk s.fs).length:=hl2
 have hn48:1<=n/\n<=48:=by omega
 have hgk:=Qge hok hinc hn48 hl2
 have hat:=hgk.at hok hinc hn48 hl2
 have hwd:=hinc.wd
 have hwl:=Z7 hok
 have hroom:=QcB h
 have hsq:=h.sq.2.2
 have hcw:s.ws[adr (szS s0) y.fr p]?=some (hdW r d):=by rw [<- hhd];~h.cw y hy p Oo hn
 have hdj:∀ k∈y.fr,k∉T.fr:=hyo.disj hinc.toIncC (by rw [h.sq.1];~hC.sqT y (Wf _ hy))
 have src:SrcP s T.fr ((adr (szS s0) y.fr p:Nat):Int) y.fr p r d:=⟨by rw [ez],hyo.ch,hyo.own,hdj,by rw [ez];~hrm,r15,d32,by rw [ez];~hcw⟩
 &⟨src,hl2,?_⟩
 have hp':T.i.words.toNat=T0.i.words.toNat+szM M:=by omega
 have hb:mvA ⟨s,T.i,mv⟩ r d=((adr (szS s0) T'.fr (T0.i.words.toNat+szM M):Nat):Int):=by
  unfold mvA
  show (GoR ⟨s.sh,s.ws,Zd s T.i n⟩ ((grw s T.i n).first*2^s.sh.toNat) T.i.words).1=_
  rw [hat,ez,hp']
 have hfr':T'.fr.length*szS s0 >= T0.i.words.toNat+szM M+1+r+d:=by
  have:=(J7 hok.shp hinc hn48).1
  show (T.fr++(Qk s.fs).take (exN s T.i n)).length*szS s0 >= _
  rw [We,Wi,W7 hl2,<- ez]
  omega
 have hgo:∀ k,k<=r+d->GoR ⟨s.sh,s.ws,Zd s T.i n⟩ (mvA ⟨s,T.i,mv⟩ r d) (k:Int)=(((adr (szS s0) T'.fr (T0.i.words.toNat+szM M+k):Nat):Int),0):=λk hk=>by
  rw [hb]
  have:=go_k (s:=⟨s.sh,s.ws,Zd s T.i n⟩) (fr:=T'.fr) (k:=k) (p:=T0.i.words.toNat+szM M) hgk.sp.shp hgk.inc.toIncC.ch hgk.inc.toIncC.own (by show _<_*szS s;rw [ez];omega)
  rw [show szS ⟨s.sh,s.ws,Zd s T.i n⟩=szS s0 from ez] at this
  ~this
 ð⟨hc2,ho2⟩:=grw_keep hok hinc hn48 hl2 src.ch src.ow src.dj
 have hgoA:∀ k,k<=r+d->GoR ⟨s.sh,s.ws,Zd s T.i n⟩ ((adr (szS s0) y.fr p:Nat):Int) (k:Int)=(((adr (szS s0) y.fr (p+k):Nat):Int),0):=λk hk=>by
  have:=go_k (s:=⟨s.sh,s.ws,Zd s T.i n⟩) (fr:=y.fr) (k:=k) (p:=p) hgk.sp.shp hc2 ho2 (by show _<_*szS s;rw [ez];omega)
  rw [show szS ⟨s.sh,s.ws,Zd s T.i n⟩=szS s0 from ez] at this
  ~this
 have hT'c:=hgk.inc.toIncC
 have hT'lt:∀ q,q<T'.fr.length*szS s0->adr (szS s0) T'.fr q<s.ws.length:=λq hq=>by
  have:=Jo (s:=⟨s.sh,s.ws,Zd s T.i n⟩) (fr:=T'.fr) hgk.sp.shp hT'c.ch.lt (p:=q) (by show _<_*szS s;rw [ez];~hq)
  rw [show szS ⟨s.sh,s.ws,Zd s T.i n⟩=szS s0 from ez] at this
  ~this
 have hother:∀ k (h1:k<s.fs.length) (h2:k<(Zd s T.i n).length),¬ (k∈T'.fr)->(Zd s T.i n)[k]=s.fs[k]:=λk h1 h2 h3=>hgk.other k h1 h2 (λhk=>h3 (Wf _ hk)) λhk=>h3 (Wj _ hk)
 have hnotT':∀ x∈C++K,∀ k∈x.fr,k∉T'.fr:=λx hx k hk hm=>by
  have ho:=hoth x hx
  rcases Wn.1 hm with hm | hm
  ·~ho.disj hinc.toIncC (by rw [h.sq.1];~hC.sqT x hx) k hk hm
  ·ð⟨h1,h0⟩:=Qcz (VU hm)
   have:=(ho.ow k h1).2 hk
   have:=ho.sq.1
   omega
 have hoth':∀ x∈C++K,IncC (Zd s T.i n) x.i x.fr:=λx hx=>by
  &(hoth x hx).keep hgk.len (D:=λk=>k∈T'.fr) hother λk h1 hk=>⟨λhk2=>hnotT' x hx k hk2 hk,?_⟩
  rw [(hT'c.ow k h1).2 hk,hgk.same.2.1,h.sq.1]
  ~λe=>hC.sqT x hx e.symm
 have hneT:∀ x∈C++K,∀ q q',q<x.fr.length*szS s0->q' < T'.fr.length*szS s0->adr (szS s0) x.fr q≠adr (szS s0) T'.fr q':=λx hx q q' h1 h2=>QeQ Oo (hnotT' x hx) h1 h2
 have hA:∀ k,k<r+d+1->(GoR ⟨s.sh,s.ws,Zd s T.i n⟩ ((adr (szS s0) y.fr p:Nat):Int) (k:Int)).1.toNat=adr (szS s0) y.fr (p+k):=λk hk=>by rw [hgoA k Oo];rfl
 have hB:∀ k,k<r+d+1->(GoR ⟨s.sh,s.ws,Zd s T.i n⟩ (mvA ⟨s,T.i,mv⟩ r d) (k:Int)).1.toNat=adr (szS s0) T'.fr (T0.i.words.toNat+szM M+k):=λk hk=>by rw [hgo k Oo];rfl
 have lA:∀ k,k<r+d+1->adr (szS s0) y.fr (p+k)<s.ws.length:=λk hk=>by
  have:=Jo hok.shp hyo.ch.lt (p:=p+k) (by rw [ez];omega)
  rwa [ez] at this
 have lB:∀ k,k<r+d+1->adr (szS s0) T'.fr (T0.i.words.toNat+szM M+k)<s.ws.length:=λk hk=>hT'lt _ Oo
 ð⟨c1,c2⟩:=cpyW_get (s:=⟨s.sh,s.ws,Zd s T.i n⟩) (a:=((adr (szS s0) y.fr p:Nat):Int)) (b:=mvA ⟨s,T.i,mv⟩ r d) (l:=s.ws) (A:=λk=>adr (szS s0) y.fr (p+k)) (B:=λk=>adr (szS s0) T'.fr (T0.i.words.toNat+szM M+k)) (r+d+1) hA hB lA lB
  (λj k h1 h2 e=>by have:=Qbr Oo hT'c.nd (p:=T0.i.words.toNat+szM M+j) (q:=T0.i.words.toNat+szM M+k) (by show _<T'.fr.length*_;omega) (by show _<T'.fr.length*_;omega) e;omega)
  (λj k h1 h2=>hneT y (Wf _ hy) _ _ Oo Oo)
 have ha0:adr (szS s0) y.fr p<s.ws.length:=lA 0 Oo
 have e3:((r:Int)+d+1).toNat=r+d+1:=by omega
 have eS:mvS ⟨s,T.i,mv⟩ ((adr (szS s0) y.fr p:Nat):Int) r d=⟨⟨s.sh,(cpyW ⟨s.sh,s.ws,Zd s T.i n⟩ ((adr (szS s0) y.fr p:Nat):Int) (mvA ⟨s,T.i,mv⟩ r d) (r+d+1) s.ws).set (adr (szS s0) y.fr p) (fwdW (mvA ⟨s,T.i,mv⟩ r d)),Zd s T.i n⟩,grw s T.i n,mv++[⟨((adr (szS s0) y.fr p:Nat):Int),mvA ⟨s,T.i,mv⟩ r d⟩]⟩:=by
  unfold mvS
  dsimp only
  rw [e3]
  rfl
 rw [eS]
 generalize hW':(cpyW ⟨s.sh,s.ws,Zd s T.i n⟩ ((adr (szS s0) y.fr p:Nat):Int) (mvA ⟨s,T.i,mv⟩ r d) (r+d+1) s.ws).set (adr (szS s0) y.fr p) (fwdW (mvA ⟨s,T.i,mv⟩ r d))=ws'
 have wl':ws'.length=s.ws.length:=by rw [<- hW'];simp
 have w1:ws'[adr (szS s0) y.fr p]?=some (fwdW (mvA ⟨s,T.i,mv⟩ r d)):=by rw [<- hW',WD (by rw [Qfz];~ha0)]
 have w2:∀ k,k<=r+d->ws'[adr (szS s0) T'.fr (T0.i.words.toNat+szM M+k)]?=s.ws[adr (szS s0) y.fr (p+k)]?:=λk hk=>by
  rw [<- hW',WC (hneT y (Wf _ hy) _ _ Oo Oo)]
  ~c1 k Oo
 have w3:∀ x,x≠adr (szS s0) y.fr p->(∀ k,k<=r+d->x≠adr (szS s0) T'.fr (T0.i.words.toNat+szM M+k))->ws'[x]?=s.ws[x]?:=λx h1 h2=>by
  rw [<- hW',WC (λe=>h1 e.symm)]
  ~c2 x λk hk=>h2 k Oo
 have w4:∀ q,q<T0.i.words.toNat+szM M->ws'[adr (szS s0) T'.fr q]?=s.ws[adr (szS s0) T.fr q]?:=λq hq=>by
  have eq:adr (szS s0) T'.fr q=adr (szS s0) T.fr q:=Xg Oo Oo
  rw [w3 _ (λe=>hneT y (Wf _ hy) p q Oo Oo e.symm) λk hk e=>?_,eq]
  have:=Qbr Oo hT'c.nd (p:=q) (q:=T0.i.words.toNat+szM M+k) (by show _<T'.fr.length*_;omega) (by show _<T'.fr.length*_;omega) e
  omega
 have hbr:0<=mvA ⟨s,T.i,mv⟩ r d/\mvA ⟨s,T.i,mv⟩ r d<16384:=by
  rw [hb]
  have:=hT'lt (T0.i.words.toNat+szM M) Oo
  omega
 have hszM:szM (M++[(adr (szS s0) y.fr p,r,d)])=szM M+1+r+d:=szM_snoc _ _ _ _
 have hnob:nob T0.i.words.toNat (M++[(adr (szS s0) y.fr p,r,d)])=nob T0.i.words.toNat M++[(adr (szS s0) y.fr p,T0.i.words.toNat+szM M,r,d)]:=nob_snoc _ _ _ _ _
 have hobE:∀ o∈nob T0.i.words.toNat M,adr (szS s0) T'.fr o.2.1=adr (szS s0) T.fr o.2.1:=λo hm=>by
  have:=J4 M _ o hm
  ~Xg Oo Oo
 have hnobL:=Qeq M T0.i.words.toNat
 &⟨?_,hb,hbr.2⟩
 &⟨h.sh,wl'.trans h.wl,hgk.len.trans h.fl,?_,?_,rfl,?_,?_,?_,?_,?_,hoth',?_,?_,?_,?_,?_,?_,?_,?_,?_,?_⟩
 ·
  &sp_ws hgk.sp (ws:=ws') wl' λk hk h0 a h1 h2 e=>?_
  have e':a/szS s0=k:=by rw [<- ez];~e
  have:=w3 a (λea=>?_) λj hj ea=>?_
  ·rw [Wa h2,Wa h1] at this
   injection this
  ·have hm:=adr_fr Oo (show p<y.fr.length*szS s0 by omega)
   rw [<- ea,e'] at hm
   ~ho2 k hm hk h0
  ·have hm:=adr_fr Oo (show T0.i.words.toNat+szM M+j<T'.fr.length*szS s0 by omega)
   rw [<- ea,e'] at hm
   ~hT'c.own k hm hk h0
 ·
  &⟨λx hx=>?_,(λf hf=>?_)⟩
  ·dsimp only at hx
   rw [<- hW'] at hx
   rcases W4 hx with hx | rfl
   ·~cpyW_all hsw.1 (show U64 0 by unfold U64;omega) _ x hx
   ·~U64_fwd hbr
  ·ð⟨k,hk,rfl⟩:=WN.1 hf
   have hk':k<(Zd s T.i n).length:=hk
   have hks:k<s.fs.length:=by rw [<- hgk.len];~hk'
   by_cases c:k∈T'.fr
   ·have q1:=(hT'c.ow k hk').2 c
    have q2:=hT'c.st k hk' c
    have q3:=hT'c.sq
    have q4:=hT'c.bl
    have q5:=Ze hgk.sp.fm k hk'
    have q6:=hgk.sp.shp.hi
    show I64 (Zd s T.i n)[k].ow/\I64 (Zd s T.i n)[k].st/\I64 (Zd s T.i n)[k].nx
    dsimp only at q5 q6
    rw [q1,q2]
    unfold I64
    omega
   ·show I64 (Zd s T.i n)[k].ow/\I64 (Zd s T.i n)[k].st/\I64 (Zd s T.i n)[k].nx
    rw [hother k hks hk' c]
    ~hsw.2 _ (Wc hks)
 ·
  ð⟨m,m1,m2⟩:=h.fr
  &⟨m+exN s T.i n,?_,?_⟩
  ·show T.fr++(Qk s.fs).take (exN s T.i n)=_
   rw [m1,show Qk s.fs=_ from m2,WP,List.take_add]
  ·show Qk (Zd s T.i n)=_
   rw [hgk.free,show Qk s.fs=_ from m2,Y8]
 ·
  have:=hgk.inc
  ~⟨this.toIncC,by have:=this.wd;rw [wl'];~this,this.len⟩
 ·
  ~⟨hgk.same.2.1.trans h.sq.1,hgk.same.2.2.trans h.sq.2.1,by show (grw s T.i n).words=_;rw [hgk.same.1,hszM];omega⟩
 ·
  show T.os++[(r,d)]=_
  rw [h.os,WH,WP]
  rfl
 ·
  show mv++[_]=_
  have:=h.mv
  dsimp only at this
  unfold QfZ
  rw [hb,hnob,WH,this,<- movs_app (l:=(Qk s.fs).take (exN s T.i n)) Oo hroom]
  rfl
 ·
  intro k hk h0
  have hk':k<(Zd s T.i n).length:=hk
  have hks:k<s.fs.length:=by rw [<- hgk.len];~hk'
  by_cases c:k∈T'.fr
  ·~.inl c
  ·have h0:¬ (Zd s T.i n)[k].ow = -1:=h0
   rw [hother k hks hk' c] at h0
   rcases h.own k hks h0 with q | q
   ·~absurd (Wf _ q) c
   ·~.inr q
 ·
  intro o hm
  rcases Wn.1 hm with hm | hm
  ·~h.src o hm
  ·rw [Wo.1 hm];~hoz
 ·
  rw [WH,Um]
  &⟨h.nd,Os,λx hx q hq=>?_⟩
  rw [Ya,Wo] at hq
  rintro rfl
  rw [hq] at hx
  ~hn hx
 ·
  intro x hx q hq hm
  rw [WH,Wn] at hm
  &(w3 _ (λe=>hm (.inr (Wo.2 e))) λk hk=>hneT x (Wf _ hx) _ _ hq Oo).trans (h.cw x hx q hq λk=>hm (.inl k))
 ·
  intro o hm
  rw [hnob] at hm
  rcases Wn.1 hm with hm | hm
  ·rw [hobE o hm]
   ð⟨x,hx,q,hq,e⟩:=h.src _ (QfX M _ o hm)
   have hq2:=(Itm.posOk hC.ok (hC.cs x hx) hq).1
   dsimp only at e
   &(w3 _ (λe2=>hn ?_) λk hk=>?_).trans (h.cf o hm)
   ·rw [<- e2,<- nob_fst M T0.i.words.toNat]
    ~W0 hm
   ·rw [e]
    ~hneT x (Wf _ hx) _ _ Oo Oo
  ·rw [Wo.1 hm]
   rw [<- hb]
   ~w1
 ·
  intro x hx q hq
  &(w3 _ (λe=>?_) λk hk=>hneT x (Wj _ hx) _ _ hq Oo).trans (h.kw x hx q hq)
  ~QeQ Oo (hyo.disj (hoth x (Wj _ hx)) (hC.sqK y hy x hx)) (p:=p) (q:=q) Oo hq e.symm
 ·
  intro q hq
  have eq:adr (szS s0) T'.fr q=adr (szS s0) T.fr q:=Xg Oo Oo
  show ws'[adr (szS s0) T'.fr q]?=s0.ws[adr (szS s0) T'.fr q]?
  rw [w4 q Oo,eq]
  ~h.tw q hq
 ·
  intro o hm
  rw [hnob] at hm
  rcases Wn.1 hm with hm | hm
  ·have:=J4 M _ o hm
   ~(w4 _ Oo).trans (h.hd o hm)
  ·rw [Wo.1 hm]
   ~(w2 0 Oo).trans hcw
 ·
  intro o hm k h1 h2
  rw [hnob] at hm
  rcases Wn.1 hm with hm | hm
  ·have:=J4 M _ o hm
   ~(w4 _ Oo).trans (h.dat o hm k h1 h2)
  ·rw [Wo.1 hm] at h1 h2 ⊢
   dsimp only at h1 h2 ⊢
   &(w2 k h2).trans ?_
   rw [srcA_at hC hy ho h2]
   &h.cw y hy _ Oo λhmm=>?_
   ð⟨o',ho',e⟩:=Wk.1 hmm
   ~head_ne hC hy ho Oo h2 (h.src o' ho') e.symm
 ·
  intro j o hj k h1 h2
  rw [hnob] at hj
  rcases Ws j (nob T0.i.words.toNat M).length with hlt | hge
  ·rw [WM hlt] at hj
   have hm:=Wp hj
   have hin:=J4 M _ o hm
   have hold:=h.ref j o hj k h1 h2
   have ew:=w4 (o.2.1+k) Oo
   split
   ·rename_i hc
    rw [if_pos hc] at hold
    ð⟨w,v,q1,q2,q3⟩:=hold
    ~⟨w,v,q1,ew.trans q2,q3.mono λm hm=>Wf _ hm⟩
   ·rename_i hc
    rw [if_neg hc] at hold
    ~ew.trans hold
  ·rw [WO hge] at hj
   have hj0:j=(nob T0.i.words.toNat M).length:=by
    rcases Ws (j-(nob T0.i.words.toNat M).length) 1 with q | q
    ·omega
    ·rw [Wg (by simpa using q)] at hj;cases hj
   rw [hj0,Ui] at hj
   injection hj with hj
   subst hj
   dsimp only at h2 ⊢
   rw [if_neg (by rintro (q | ⟨q1,q2⟩) <;> omega)]
   &(w2 k Oo).trans ?_
   rw [srcA_at hC hy ho Oo]
   &h.cw y hy _ Oo λhmm=>?_
   ð⟨o',ho',e⟩:=Wk.1 hmm
   ~head_ne hC hy ho Oo Oo (h.src o' ho') e.symm
end Go.Proofs.YtkfnkecgcdhncaaGreat
