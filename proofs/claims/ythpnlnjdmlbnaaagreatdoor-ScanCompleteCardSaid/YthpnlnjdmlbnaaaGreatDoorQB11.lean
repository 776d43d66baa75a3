/- Parts of the proof. No condition. -/
import Derived.Test.YthpnlnjdmlbnaaaGreatDoorQB0
import Derived.Test.YthpnlnjdmlbnaaaGreatDoorQB2
import Derived.Test.YthpnlnjdmlbnaaaGreatDoorQB3
import Derived.Test.YthpnlnjdmlbnaaaGreatDoorQB4
import Derived.Test.YthpnlnjdmlbnaaaGreatDoorQB5
import Derived.Test.YthpnlnjdmlbnaaaGreatDoorQB6
import Derived.Test.YthpnlnjdmlbnaaaGreatDoorQB7
import Derived.Test.YthpnlnjdmlbnaaaGreatDoorQB8
import Derived.Test.YthpnlnjdmlbnaaaGreatDoorQB9
import Derived.Test.YthpnlnjdmlbnaaaGreatDoorQB10
namespace Go.Proofs.YthpnlnjdmlbnaaaGreatDoor
open Go.RowKit
set_option linter.unusedSimpArgs false
set_option linter.unusedVariables false
theorem some_b{b:Bool}{p:Prop}(h:b=true<->p):some b=some (bP p):=by
 congr 1
 cases b with
 | true=>exact (Qc3 (h.1 rfl)).symm
 | false=>exact (bP_f λhp=>by cases h.2 hp).symm
theorem some_t{p:Prop}(h:p):some true=some (bP p):=by rw [Qc3 h]
theorem some_f{p:Prop}(h:¬ p):some false=some (bP p):=by rw [bP_f h]
theorem shl_k{s:Sp}(hs:Qcg s.sh){a:Int}(n:Nat)(ha:a=n)(hn:n<=4294967296):Qcq .i64 a (wu s.sh)=((n * szS s:Nat):Int):=by
 obtain ⟨g1,g2,g3,g4,g5⟩:=XC hs
 have hp:n * szS s<=4294967296 * 256:=Uh hn g4
 rw [Jd Oo,show s.sh=((s.sh.toNat:Nat):Int) by omega,shl_pow Oo (by rw [g5,ha,<- YI];omega),g5,ha]
 push_cast
 rfl
theorem wu_sh{s:Sp}(hs:Qcg s.sh):0<=wu s.sh:=by unfold Qcg at hs;rw [Jd Oo];omega
theorem rshift_c(k:Int):Zm k=some (bP (Qcg k)):=by
 unfold Zm Qcg
 by_cases h:3<=k
 ·rw [if_pos h];exact some_b (by simp [h])
 ·rw [if_neg h];exact some_f λhp=>h hp.1
section
variable{α β ρ σ:Type}{G:α->Prop}
def Gd(G:α->Prop)(v:Option α):Prop:=∃ a,v=some a/\G a
theorem Gd.some{a:α}(h:G a):Gd G (some a):=⟨a,rfl,h⟩
theorem Gd.mono{P:α->Prop}{v:Option α}(h:Gd P v)(k:∀ a,P a->G a):Gd G v:=by
 obtain ⟨a,h1,h2⟩:=h
 exact ⟨a,h1,k a h2⟩
theorem Gd.eq{v:Option α}{a:α}(h:Gd (λx=>x=a) v):v = .some a:=by
 obtain ⟨b,h1,rfl⟩:=h
 exact h1
theorem Gd.of{v:Option α}{a:α}(h:v = .some a)(k:G a):Gd G v:=⟨a,h,k⟩
theorem Gd.bind{P:β->Prop}{x:Option β}{K:β->Option α}(h:Gd P x)(k:∀ a,P a->Gd G (K a)):Gd G (x.bind K):=by
 obtain ⟨a,rfl,h2⟩:=h
 exact k a h2
theorem Gd.call{x:Option β}{a:β}{K:β->Option α}(h:x = .some a)(k:Gd G (K a)):Gd G (x.bind K):=by
 subst h
 exact k
theorem Gd.bndR{P:β ⊕ α->Prop}{x:Option (β ⊕ α)}{K:β->Option α}(h:Gd P x)(k:∀ b,P (.inl b)->Gd G (K b))(kr:∀ r,P (.inr r)->G r):Gd G (bndR x K):=by
 obtain ⟨a,rfl,h2⟩:=h
 cases a with
 | inl b=>exact k b h2
 | inr r=>exact ⟨r,rfl,kr r h2⟩
theorem Gd.ite{p:Prop}[Decidable p]{a b:Option α}(h1:p->Gd G a)(h2:¬ p->Gd G b):Gd G (if p then a else b):=by
 by_cases h:p
 ·rw [if_pos h];exact h1 h
 ·rw [if_neg h];exact h2 h
theorem Gd.pos{p:Prop}[Decidable p]{a b:Option α}(h:p)(h1:Gd G a):Gd G (if p then a else b):=by rw [if_pos h];exact h1
theorem Gd.neg{p:Prop}[Decidable p]{a b:Option α}(h:¬ p)(h1:Gd G b):Gd G (if p then a else b):=by rw [if_neg h];exact h1
theorem Gd.at{l:List β}{i:Int}{K:β->Option α}(h0:0<=i)(h:i.toNat < l.length)(k:Gd G (K (l[i.toNat]'h))):Gd G ((at_ l i).bind K):=by rw [at_int h0 h];exact k
theorem Gd.atN{l:List β}{i:Nat}{K:β->Option α}(h:i < l.length)(k:Gd G (K l[i])):Gd G ((at_ l (i:Int)).bind K):=by rw [at_nat h];exact k
theorem Gd.at0{l:List β}{K:β->Option α}(h:0 < l.length)(k:Gd G (K l[0])):Gd G ((at_ l 0).bind K):=Gd.atN (i:=0) h k
def LSP(I:σ->Prop)(Q:β->Prop)(μ:σ->Nat)(m:Nat):LS σ β->Prop
 | .go s=>I s/\μ s < m
 | .out b=>Q b
theorem Gd.loop{f:σ->Option (LS σ β)}{s:σ}(I:σ->Prop)(Q:β->Prop)(μ:σ->Nat)(hs:I s)(h:∀ s,I s->Gd (LSP I Q μ (μ s)) (f s)):Gd Q (Qi f s) :=
 loop_ok I Q μ hs λs hs=>by
  obtain ⟨a,h1,h2⟩:=h s hs
  cases a with
  | go s'=>exact .inl ⟨s',h1,h2.1,h2.2⟩
  | out b=>exact .inr ⟨b,h1,h2⟩
theorem Gd.go{I:σ->Prop}{Q:β->Prop}{μ:σ->Nat}{m:Nat}{s:σ}(h:I s)(k:μ s < m):Gd (LSP I Q μ m) (.some (LS.go s)):=⟨_,rfl,h,k⟩
theorem Gd.out{I:σ->Prop}{Q:β->Prop}{μ:σ->Nat}{m:Nat}{b:β}(h:Q b):Gd (LSP I Q μ m) (.some (LS.out b)):=⟨_,rfl,h⟩
theorem Gd.count{f:σ->Option (LS σ β)}{s:σ}(J:Nat->σ)(n:Nat)(Q:β->Prop)(I:Nat->Prop)(h0:s=J 0)(hI:I 0)
  (h:∀ k,k < n->I k->Gd (λa=>(∃ s',a=LS.go s'/\s'=J (k+1)/\I (k+1))\/∃ b,a=LS.out b/\Q b) (f (J k)))(hn:I n->Gd (λa=>∃ b,a=LS.out b/\Q b) (f (J n))):Gd Q (Qi f s):=by
 have key:∀ d k,k+d=n->I k->Gd Q (Qi f (J k)):=by
  intro d
  induction d with
  | zero =>
   intro k hk hI
   obtain rfl:k=n:=by omega
   obtain ⟨a,h1,b,rfl,h2⟩:=hn hI
   exact ⟨b,Qbj h1,h2⟩
  | succ d ih =>
   intro k hk hI
   obtain ⟨a,h1,h2⟩:=h k Oo hI
   rcases h2 with ⟨s',rfl,rfl,h3⟩ | ⟨b,rfl,h3⟩
   ·rw [QdN h1];exact ih (k+1) Oo h3
   ·exact ⟨b,Qbj h1,h3⟩
 subst h0
 exact key n 0 Oo hI
end
theorem Gd.t{p:Prop}(h:p):Gd (λx=>x=bP p) (.some true):=.some (Qc3 h).symm
theorem Gd.f{p:Prop}(h:¬ p):Gd (λx=>x=bP p) (.some false):=.some (bP_f h).symm
theorem Gd.b{p:Prop}{b:Bool}(h:b=true<->p):Gd (λx=>x=bP p) (.some b):=.some (by
 cases b with
 | true=>exact (Qc3 (h.1 rfl)).symm
 | false=>exact (bP_f λhp=>by cases h.2 hp).symm)
def CntOf(fs:List Fe)(n:Nat)(c:List Int):Prop:=c.length=64/\∀ j (h:j < c.length),(c[j]=0\/c[j]=1)/\(c[j]=1<->∃ i,∃ h:i < fs.length,i < n/\fs[i].nx=j)
theorem CntOf.zero{fs:List Fe}:CntOf fs 0 (List.replicate 64 0):=⟨Os,λj hj=>by
 rw [UZ]
 exact ⟨.inl rfl,λh=>absurd h Od,λ⟨i,_,h,_⟩=>by omega⟩⟩
theorem CntOf.skip{fs:List Fe}{n:Nat}{c:List Int}(h:CntOf fs n c)(hn:n < fs.length)(hx:fs[n].nx < 0):CntOf fs (n+1) c:=⟨h.1,λj hj=>⟨(h.2 j hj).1,(h.2 j hj).2.trans ⟨λ⟨i,hi,h1,h2⟩=>⟨i,hi,Oo,h2⟩,λ⟨i,hi,h1,h2⟩=>by
 rcases VE.1 h1 with h3 | h3
 ·exact ⟨i,hi,h3,h2⟩
 ·subst h3;omega⟩⟩⟩
theorem CntOf.set{fs:List Fe}{n p:Nat}{c:List Int}(h:CntOf fs n c)(hn:n < fs.length)(hp:p < c.length)(hx:fs[n].nx=p)(h0:c[p]=0):CntOf fs (n+1) (c.set p (c[p]+1)):=by
 refine ⟨by rw [Ww];exact h.1,λj hj=>?_⟩
 rw [Ww] at hj
 have hb:=h.2 j hj
 by_cases e:j=p
 ·subst e
  rw [Ux,h0]
  exact ⟨.inr rfl,λ_=>⟨n,hn,Oo,hx⟩,λ_=>rfl⟩
 ·rw [VG (λh=>e h.symm)]
  refine ⟨hb.1,hb.2.trans ⟨λ⟨i,hi,h1,h2⟩=>⟨i,hi,Oo,h2⟩,λ⟨i,hi,h1,h2⟩=>?_⟩⟩
  rcases VE.1 h1 with h3 | h3
  ·exact ⟨i,hi,h3,h2⟩
  ·subst h3;omega
theorem UqF.notC{fs:List Fe}{n p:Nat}{c:List Int}(hn:n < fs.length)(hb:CntOf fs n c)(hp:p < c.length)(hx:fs[n].nx=p)(h0:¬ c[p]=0):¬ UqF fs fs.length:=λh=>by
 obtain ⟨i,hi,h1,h2⟩:=(hb.2 p hp).2.1 (by have:=(hb.2 p hp).1;omega)
 have:=h i n hi hn h1 hn (h2.trans hx.symm)
 omega
theorem XA.nxIn{s:Sp}(h:XA s):NxIn s.fs:=Z1 h.fm
theorem SpW.at{s:Sp}(h:SpW s){k:Nat}(hk:k < s.fs.length):I64 s.fs[k].ow/\I64 s.fs[k].st/\I64 s.fs[k].nx:=h.2 _ (Wd hk)
theorem shl1{j:Nat}(hj:j < 64):0<=(1:Int) * 2 ^ j/\(1:Int) * 2 ^ j<=18446744073709551615:=by
 have h1:(2:Nat) ^ j < 2 ^ 64:=UD Od hj
 have e1:((2:Int) ^ j)=((2 ^ j:Nat):Int):=by push_cast;rfl
 rw [Yq,e1]
 generalize 2 ^ j=x at *
 omega
theorem shru{a:Int}{j:Nat}(h:0<=a/\a<=18446744073709551615)(hj:j<=64):Qb2 .u64 a (j:Int)=a / 2 ^ j:=by
 unfold Qb2
 rw [Wc,W7 (show j<=IntKind.u64.bits from hj)]
 exact Ug _ (YT (Int.pow_pos Od))
theorem shlu1{j:Nat}(hj:j < 64):Qcq .u64 1 (j:Int)=2 ^ j:=by
 unfold Qcq
 rw [Wc,W7 (show j<=IntKind.u64.bits from (by show j<=64;omega)),Yq]
 exact Jd (by have:=shl1 hj;rw [Yq] at this;exact this)
def Asc(l:List Int):Prop:=∀ i (h:i+1 < l.length),l[i] < l[i+1]
def Zr(a b:Qe):Prop:=a.frm < b.frm\/(a.frm=b.frm/\a.to < b.to)
def SetOk(x:Qe):Prop:=(0<=x.frm/\x.frm < 64)/\(0<=x.to/\x.to < 64)/\0 < x.slots.length/\(∀ h:0 < x.slots.length,0<=x.slots[0])/\Asc x.slots
def Qy(l:List Qe):Prop:=(∀ x∈l,SetOk x)/\∀ i (h:i+1 < l.length),Zr l[i] l[i+1]
structure Rng(x:Qe):Prop where
 f0:0<=x.frm
 f1:x.frm < 64
 t0:0<=x.to
 t1:x.to < 64
theorem SetOk.rng{x:Qe}(h:SetOk x):Rng x:=⟨h.1.1,h.1.2,h.2.1.1,h.2.1.2⟩
theorem before_c(a b:Qe):ZT a b=some (bP (Zr a b)):=by
 unfold ZT Zr
 by_cases h:a.frm < b.frm
 ·rw [if_pos h];exact some_t (.inl h)
 rw [if_neg h]
 by_cases h2:a.frm=b.frm
 ·rw [if_pos h2];exact some_b (by rw [decide_eq_true_iff];exact ⟨λk=>.inr ⟨h2,k⟩,λk=>by omega⟩)
 ·rw [if_neg h2];exact some_f Oo
theorem Qai{α:Type}{p:α->Bool}:∀ {l:List α} {i:Nat},i<=l.length->(∀ j (h:j < l.length),j < i->p l[j]=false)->(∀ h:i < l.length,p l[i]=true)->l.findIdx p=i
 | [],i,hi,_,_=>by simp at hi;subst hi;rfl
 | x :: l,0,_,_,h2=>by
  have:p x=true:=h2 Os
  rw [List.findIdx_cons,this];rfl
 | x :: l,i+1,hi,h1,h2=>by
  have h0:p x=false:=h1 0 Os Oo
  have:=Qai (p:=p) (l:=l) (i:=i) (by simpa using hi) (λj h hj=>by
   have:=h1 (j+1) (by simpa using h) Oo
   simpa using this) (λh=>by
   have:=h2 (by simpa using h)
   simpa using this)
  rw [List.findIdx_cons,h0,this];rfl
theorem findIdx_le{α:Type}(p:α->Bool)(l:List α):l.findIdx p<=l.length:=List.findIdx_le_length
noncomputable def J4(l:List Qe)(t:Qe):Nat:=l.findIdx λx=>!bP (Zr x t)
noncomputable def Qba(l:List Int)(s:Int):Nat:=l.findIdx λx=>!bP (x < s)
theorem Zr.trans{a b c:Qe}(h:Zr a b)(k:Zr b c):Zr a c:=by unfold Zr at *;omega
theorem Zr.irrefl{a:Qe}(h:Zr a a):False:=by unfold Zr at h;omega
theorem adj_all{α:Type}{R:α->α->Prop}(ht:∀ {a b c},R a b->R b c->R a c){l:List α}(h:∀ i (h:i+1 < l.length),R l[i] l[i+1]):∀ (d i:Nat) (hj:i+d+1 < l.length),R (l[i]' Oo) l[i+d+1]
 | 0,i,hj=>h i hj
 | d+1,i,hj=>ht (b:=l[i+d+1]' Oo) (adj_all (l:=l) @ht h d i Oo) (h (i+d+1) hj)
theorem Qy.lt{l:List Qe}(h:Qy l){i j:Nat}(hij:i < j)(hj:j < l.length):Zr (l[i]' Oo) l[j]:=by
 obtain ⟨d,rfl⟩:∃ d,j=i+d+1:=⟨j - i - 1,Oo⟩
 exact adj_all (R:=Zr) Zr.trans h.2 d i hj
theorem Asc.lt{l:List Int}(h:Asc l){i j:Nat}(hij:i < j)(hj:j < l.length):l[i]' Oo < l[j]:=by
 obtain ⟨d,rfl⟩:∃ d,j=i+d+1:=⟨j - i - 1,Oo⟩
 exact adj_all (R:=λa b:Int=>a < b) (λa b=>by omega) h d i hj
theorem posK_of{l:List Qe}{t:Qe}{i:Nat}(hi:i<=l.length)(h1:∀ j (h:j < l.length),j < i->Zr l[j] t)(h2:∀ h:i < l.length,¬ Zr l[i] t):J4 l t=i :=
 Qai hi (λj h hj=>by rw [Qc3 (h1 j h hj)];rfl) λh=>by rw [bP_f (h2 h)];rfl
theorem posI_of{l:List Int}{s:Int}{i:Nat}(hi:i<=l.length)(h1:∀ j (h:j < l.length),j < i->l[j] < s)(h2:∀ h:i < l.length,¬ l[i] < s):Qba l s=i :=
 Qai hi (λj h hj=>by rw [Qc3 (h1 j h hj)];rfl) λh=>by rw [bP_f (h2 h)];rfl
theorem Qd9(l:List Qe)(t:Qe):J4 l t<=l.length:=findIdx_le _ _
theorem posI_le(l:List Int)(s:Int):Qba l s<=l.length:=findIdx_le _ _
theorem rcopy_c(l:List Qe)(hl:l.length<=1000000)(hs:∀ x∈l,x.slots.length<=4294967296):ZA l=some l:=by
 refine Gd.eq ?_
 unfold ZA
 refine Gd.bind (P:=λb=>b=l) ?_ λb hb=>.some hb
 refine Gd.loop (λx:List Qe×Int=>∃ k:Nat,x=(l.take k,(k:Int))/\k<=l.length) _ (λx=>l.length - x.2.toNat) ⟨0,rfl,W9 _⟩ ?_
 rintro x ⟨k,rfl,hk⟩
 dsimp only
 refine .ite (λhlt=>?_) λhlt=>.out (Vb Oo)
 have hlt:k < l.length:=by omega
 have h1:=hs _ (Wd hlt)
 refine .atN hlt ?_
 refine .pos ⟨Oo,Oo⟩ ?_
 rw [Ws,WE]
 refine .pos ⟨Oo,Oo⟩ ?_
 have e1:w64 ((k:Int)+1)=((k+1:Nat):Int):=Qd Oo
 rw [e1]
 exact .go ⟨k+1,by rw [Vt hlt],hlt⟩ (by dsimp only;omega)
noncomputable def Qb0(l:List Int)(s:Int):List Int:=open Classical in if ∃ h:Qba l s < l.length,l[Qba l s]=s then l else l.insertIdx (Qba l s) s
noncomputable def putK(l:List Qe)(f t s:Int):List Qe:=open Classical in if h:∃ h:J4 l ⟨f,t,[]⟩ < l.length,l[J4 l ⟨f,t,[]⟩].frm=f/\l[J4 l ⟨f,t,[]⟩].to=t
 then l.set (J4 l ⟨f,t,[]⟩) ⟨f,t,Qb0 (l[J4 l ⟨f,t,[]⟩]'h.1).slots s⟩ else l.insertIdx (J4 l ⟨f,t,[]⟩) ⟨f,t,[s]⟩
theorem ins_eq{α:Type}(l:List α)(i:Nat)(x:α):l.insertIdx i x=if i<=l.length then l.take i++[x]++l.drop i else l:=by
 by_cases h:i<=l.length
 ·rw [if_pos h]
  induction l generalizing i with
  | nil =>
    obtain rfl:i=0:=by simpa using h
    rfl
  | cons a l ih =>
   cases i with
   | zero=>rfl
   | succ i=>rw [List.insertIdx_succ_cons,ih i (by simpa using h)];rfl
 ·rw [if_neg h,List.insertIdx_of_length_lt Oo]
theorem mk_eq{a b f t:Int}{y:List Int}(h:a=f)(k:b=t):Qe.mk a b y=⟨f,t,y⟩:=by rw [h,k]
theorem with_c{l:List Int}(hl:Asc l)(hlen:l.length<=100000)(s:Int):XJ l s=some (Qb0 l s):=by
  refine Gd.eq ?_
  unfold XJ
  refine Gd.bind (P:=λb:Int=>b=(Qba l s:Nat)) ?_ λb hb=>?_
  · refine Gd.loop (λx:Int=>∃ i:Nat,x=i/\i<=l.length/\∀ a (h:a < l.length),a < i->l[a] < s) _ (λx=>l.length - x.toNat) ⟨0,rfl,W9 _,λa _ h=>absurd h (Vo _)⟩ ?_
    rintro x ⟨i,rfl,hi,h1⟩
    refine .ite (λhlt=>?_) λhlt=>.out (by rw [posI_of hi h1 λh=>by omega])
    have hlt:i < l.length:=by omega
    have e1:w64 ((i:Int)+1)=((i+1:Nat):Int):=Qd Oo
    refine .atN hlt ?_
    rw [e1]
    refine .ite (λhc=>?_) λhc=>.out (by rw [posI_of hi h1 λ_=>hc])
    refine .go ⟨i+1,rfl,hlt,λa h ha=>?_⟩ Oo
    by_cases h3:a=i
    · subst h3;exact hc
    · exact h1 a h Oo
  · subst hb
    have hp:=posI_le l s
    unfold Qb0
    have h2:(l.take (Qba l s)).length=Qba l s:=by rw [Ws];omega
    have fin:∀ {G:List Int->Prop},G (l.insertIdx (Qba l s) s)->Gd G (if (0:Int)<=0/\(0:Int)<=(Qba l s:Nat)/\((Qba l s:Nat):Int)<=l.length then
       if (((l.take (Int.toNat (Qba l s:Nat))).drop (Int.toNat 0)).length:Int) * 8<=140737488355328/\(((l.take (Int.toNat (Qba l s:Nat))).drop (Int.toNat 0)).length:Int)<=9223372036854775807 then
       if ((((l.take (Int.toNat (Qba l s:Nat))).drop (Int.toNat 0)).length:Int)+[s].length) * 8<=140737488355328/\(((l.take (Int.toNat (Qba l s:Nat))).drop (Int.toNat 0)).length:Int)+[s].length<=9223372036854775807 then
       if (0:Int)<=(Qba l s:Nat)/\((Qba l s:Nat):Int)<=(l.length:Int)/\(l.length:Int)<=l.length then
       if (((((l.take (Int.toNat (Qba l s:Nat))).drop (Int.toNat 0))++[s]).length:Int)+((l.take (Int.toNat (l.length:Int))).drop (Int.toNat (Qba l s:Nat))).length) * 8<=140737488355328/\((((l.take (Int.toNat (Qba l s:Nat))).drop (Int.toNat 0))++[s]).length:Int)+((l.take (Int.toNat (l.length:Int))).drop (Int.toNat (Qba l s:Nat))).length<=9223372036854775807 then
       some ((((l.take (Int.toNat (Qba l s:Nat))).drop (Int.toNat 0))++[s])++((l.take (Int.toNat (l.length:Int))).drop (Int.toNat (Qba l s:Nat))))
       else none else none else none else none else none):=λhG=>by
      rw [Wc,show (0:Int).toNat=0 from rfl,Uq,Wc,WH,Wn,WY,h2]
      simp only [WP,VL]
      refine .pos ⟨Oo,Oo,Oo⟩ (.pos ⟨Oo,Oo⟩ (.pos ⟨Oo,Oo⟩ (.pos ⟨Oo,Oo,Oo⟩ (.pos ⟨Oo,Oo⟩ (.some ?_)))))
      have:=ins_eq l (Qba l s) s
      rw [if_pos hp] at this
      rw [<- this]
      exact hG
    refine .ite (λh=>?_) λh=>?_
    · have h:Qba l s < l.length:=by omega
      refine .atN h ?_
      refine .ite (λh0=>.some (by rw [if_pos ⟨h,h0⟩])) λh0=>?_
      rw [if_neg λ⟨_,k⟩=>h0 k]
      exact fin rfl
    · rw [if_neg λ⟨k,_⟩=>h Oo]
      exact fin rfl
theorem put_c{l:List Qe}(hl:Qy l)(hlen:l.length<=100000)(hs:∀ x∈l,x.slots.length<=100000)(f t s:Int):Jo l f t s=some (putK l f t s):=by
  refine Gd.eq ?_
  unfold Jo
  refine Gd.bind (P:=λb:Int=>b=(J4 l ⟨f,t,[]⟩:Nat)) ?_ λb hb=>?_
  · refine Gd.loop (λx:Int=>∃ i:Nat,x=i/\i<=l.length/\∀ a (h:a < l.length),a < i->Zr l[a] ⟨f,t,[]⟩) _ (λx=>l.length - x.toNat) ⟨0,rfl,W9 _,λa _ h=>absurd h (Vo _)⟩ ?_
    rintro x ⟨i,rfl,hi,h1⟩
    refine .ite (λhlt=>?_) λhlt=>.out (by rw [posK_of hi h1 λh=>by omega])
    have hlt:i < l.length:=by omega
    have e1:w64 ((i:Int)+1)=((i+1:Nat):Int):=Qd Oo
    refine .atN hlt ?_
    refine .call (before_c _ _) ?_
    rw [e1]
    refine .ite (λhc=>?_) λhc=>.out (by rw [posK_of hi h1 λ_ k=>hc (Qc3 k)])
    refine .go ⟨i+1,rfl,hlt,λa h ha=>?_⟩ Oo
    by_cases h3:a=i
    · subst h3;exact ZI.1 hc
    · exact h1 a h Oo
  · subst hb
    refine .call (rcopy_c l Oo λx hx=>by have:=hs x hx;omega) ?_
    have hp:=Qd9 l ⟨f,t,[]⟩
    have h2:(l.take (J4 l ⟨f,t,[]⟩)).length=J4 l ⟨f,t,[]⟩:=by rw [Ws];omega
    have fin:∀ {G:List Qe->Prop},G (l.insertIdx (J4 l ⟨f,t,[]⟩) ⟨f,t,[s]⟩)->Gd G (if (0:Int)<=(J4 l ⟨f,t,[]⟩:Nat)/\((J4 l ⟨f,t,[]⟩:Nat):Int)<=l.length then
       if (((l.take (Int.toNat (l.length:Int))).drop (Int.toNat (J4 l ⟨f,t,[]⟩:Nat))).length:Int) * 40<=140737488355328/\(((l.take (Int.toNat (l.length:Int))).drop (Int.toNat (J4 l ⟨f,t,[]⟩:Nat))).length:Int)<=9223372036854775807 then
       if (0:Int)<=(J4 l ⟨f,t,[]⟩:Nat)/\((J4 l ⟨f,t,[]⟩:Nat):Int)<=l.length then
       if (((l.take (Int.toNat (J4 l ⟨f,t,[]⟩:Nat))).length:Int)+[Qe.mk f t [s]].length) * 40<=140737488355328/\((l.take (Int.toNat (J4 l ⟨f,t,[]⟩:Nat))).length:Int)+[Qe.mk f t [s]].length<=9223372036854775807 then
       if ((((l.take (Int.toNat (J4 l ⟨f,t,[]⟩:Nat)))++[Qe.mk f t [s]]).length:Int)+((l.take (Int.toNat (l.length:Int))).drop (Int.toNat (J4 l ⟨f,t,[]⟩:Nat))).length) * 40<=140737488355328/\(((l.take (Int.toNat (J4 l ⟨f,t,[]⟩:Nat)))++[Qe.mk f t [s]]).length:Int)+((l.take (Int.toNat (l.length:Int))).drop (Int.toNat (J4 l ⟨f,t,[]⟩:Nat))).length<=9223372036854775807 then
       some (((l.take (Int.toNat (J4 l ⟨f,t,[]⟩:Nat)))++[Qe.mk f t [s]])++((l.take (Int.toNat (l.length:Int))).drop (Int.toNat (J4 l ⟨f,t,[]⟩:Nat))))
       else none else none else none else none else none):=λhG=>by
      rw [Wc,Wc,WH,Wn,WY,h2]
      simp only [WP,VL]
      refine .pos ⟨Oo,Oo⟩ (.pos ⟨Oo,Oo⟩ (.pos ⟨Oo,Oo⟩ (.pos ⟨Oo,Oo⟩ (.pos ⟨Oo,Oo⟩ (.some ?_)))))
      have:=ins_eq l (J4 l ⟨f,t,[]⟩) ⟨f,t,[s]⟩
      rw [if_pos hp] at this
      rw [<- this]
      exact hG
    unfold putK
    refine .ite (λh=>?_) λh=>?_
    · have h:J4 l ⟨f,t,[]⟩ < l.length:=by omega
      have hnot:¬ Zr l[J4 l ⟨f,t,[]⟩] ⟨f,t,[]⟩:=λk=>by
        have:=U9 (p:=λx=>!bP (Zr x ⟨f,t,[]⟩)) (xs:=l) (w:=h)
        simp only [Vn] at this
        have e:bP (Zr l[J4 l ⟨f,t,[]⟩] ⟨f,t,[]⟩)=false:=this
        rw [Qc3 k] at e
        cases e
      refine .atN h ?_
      refine .call (before_c _ _) ?_
      refine .ite (λh0=>?_) λh0=>?_
      · have h0:=ZI.1 h0
        rw [dif_neg λ⟨_,k1,k2⟩=>by unfold Zr at h0;dsimp only at h0;omega]
        exact fin rfl
      · have h0:¬ Zr ⟨f,t,[]⟩ l[J4 l ⟨f,t,[]⟩]:=λk=>h0 (Qc3 k)
        have h6:l[J4 l ⟨f,t,[]⟩].frm=f/\l[J4 l ⟨f,t,[]⟩].to=t:=by unfold Zr at h0 hnot;dsimp only at h0 hnot;omega
        rw [dif_pos ⟨h,h6⟩]
        refine .call (with_c (hl.1 _ (Wd h)).2.2.2.2 (hs _ (Wd h)) s) ?_
        refine .atN h ?_
        rw [Wc]
        exact .some (congrArg (λx=>l.set _ x) (mk_eq h6.1 h6.2))
    · rw [dif_neg λ⟨k,_⟩=>h Oo]
      exact fin rfl
theorem shr_k{s:Sp}(hs:Qcg s.sh){a:Int}(n:Nat)(ha:a=n):Qb2 .i64 a (wu s.sh)=((n / szS s:Nat):Int):=by
 obtain ⟨g1,g2,g3,g4,g5⟩:=XC hs
 subst ha
 rw [Jd Oo]
 unfold Qb2
 rw [W7 (show s.sh.toNat<=IntKind.i64.bits from (by show _<=64;omega)),Ug _ (by rw [g5];omega),g5]
 exact (Ub _ _).symm
def Jf(s:Sp)(a:Int):Nat:=a.toNat / szS s
theorem frOf_lt{s:Sp}(hs:XA s){a:Int}(h0:0<=a)(h:a < s.ws.length):Jf s a < s.fs.length:=by
 obtain ⟨g1,g2,g3,g4,g5⟩:=XC hs.shp.sh
 unfold Jf
 have:=hs.shp.wl
 exact (VH Oo).2 Oo
def Qa8(s:Sp)(p w:Int):Prop:=(¬ w=0/\w<=s.ws.length/\0<=p/\p < s.ws.length)/\∃ (h1:Jf s p < s.fs.length) (h2:Jf s (w - 1) < s.fs.length),¬ s.fs[Jf s p].ow = -1/\¬ s.fs[Jf s (w - 1)].ow = -1/\s.fs[Jf s (w - 1)].st < s.fs[Jf s p].st
theorem XT{s:Sp}(hs:XA s):s.ws.length<=16384:=by
 obtain ⟨g1,g2,g3,g4,g5⟩:=XC hs.shp.sh
 have:=hs.shp.wl
 have h:s.fs.length * szS s<=64 * 256:=Uh hs.shp.hi g4
 omega
theorem rpair_c{s:Sp}(hs:XA s){p w:Int}(hw:0<=w/\w<=18446744073709551615):XI s p w=some (open Classical in if ¬ w=0/\w<=s.ws.length/\0<=p/\p < s.ws.length then ((Jf s p:Int),(Jf s (w - 1):Int),bP (Qa8 s p w)) else (0,0,false)):=by
 have hl:=XT hs
 refine Gd.eq ?_
 unfold XI
 rw [Jd (n:=(s.ws.length:Int)) Oo]
 refine .ite (λh=>.some (by rw [if_neg λk=>k.1 h])) λh1=>?_
 refine .ite (λh=>.some (by rw [if_neg λk=>by omega])) λh2=>?_
 refine .ite (λh=>.some (by rw [if_neg λk=>by omega])) λh3=>?_
 refine .ite (λh=>.some (by rw [if_neg λk=>by omega])) λh4=>?_
 have h:¬ w=0/\w<=s.ws.length/\0<=p/\p < s.ws.length:=⟨h1,Oo,Oo,Oo⟩
 have g1:=frOf_lt hs (a:=p) Oo Oo
 have g2:=frOf_lt hs (a:=w - 1) Oo Oo
 refine .pos (wu_sh hs.shp.sh) ?_
 rw [if_pos h,Jd (n:=w - 1) Oo,Qd (n:=w - 1) Oo,shr_k hs.shp.sh p.toNat Oo,shr_k hs.shp.sh (w - 1).toNat Oo]
 refine .atN g1 (.atN g2 ?_)
 refine .ite (λk=>.some (by rw [bP_f λ⟨_,_,_,q,_⟩=>q k];rfl)) λk1=>?_
 refine .ite (λk=>.some (by rw [bP_f λ⟨_,_,_,_,q,_⟩=>q k];rfl)) λk2=>.some ?_
 refine congrArg (λb=>((Jf s p:Int),(Jf s (w - 1):Int),b)) ?_
 have:=(some_b (b:=decide (s.fs[Jf s (w - 1)].st < s.fs[Jf s p].st)) (p:=Qa8 s p w) (by rw [decide_eq_true_iff];exact ⟨λk3=>⟨h,g1,g2,k1,k2,k3⟩,λ⟨_,_,_,_,_,q⟩=>q⟩))
 injection this
theorem Qbs.z{s:Sp}(h:Qbs s):0<=s.sh/\s.sh<=8/\8<=szS s/\szS s<=256/\(2:Int) ^ s.sh.toNat=(szS s:Int):=XC h.sh
theorem Qbs.small{s:Sp}(h:Qbs s):s.ws.length<=16384:=by
 rw [h.wl]
 exact Uh h.hi h.z.2.2.2.1
theorem ad_frame{s:Sp}(h:Qbs s){a:Int}(h0:0<=a)(h1:a < s.ws.length):∃ F:Nat,a / szS s=F/\F < s.fs.length:=by
 obtain ⟨g1,g2,g3,g4,g5⟩:=h.z
 obtain ⟨n,rfl⟩:∃ n:Nat,a=n:=⟨a.toNat,Oo⟩
 refine ⟨n / szS s,by push_cast;rfl,?_⟩
 rw [h.wl] at h1
 exact Vg (by rw [Vw];omega)
def adv(s:Sp)(f n:Int):Int×Int:=if 0<=itF s.fs (n / szS s).toNat f then (itF s.fs (n / szS s).toNat f * szS s+n % szS s,0) else (0,2)
theorem adv_lt{s:Sp}{f n:Int}(hf:0<=f)(h0:0<=n)(h1:n < szS s):adv s f n=(f * szS s+n,0):=by
 have e:(n / szS s).toNat=0:=by rw [YE h0 h1];rfl
 unfold adv
 rw [e]
 show (if 0<=f then (f * szS s+n % szS s,0) else (0,2))=_
 rw [if_pos hf,Int.emod_eq_of_lt h0 h1]
theorem adv_neg{s:Sp}{f n:Int}(hf:f = -1):adv s f n=(0,2):=by
 unfold adv
 rw [JD _ hf]
 rfl
theorem adv_ge{s:Sp}{f n:Int}(hz:0 < szS s)(h1:szS s<=n):adv s f n=adv s (nxF s.fs f) (n - szS s):=by
 have e1:n / szS s=(n - szS s) / szS s+1:=by
  have:n=(n - szS s)+1 * szS s:=by omega
  rw [this,Int.add_mul_ediv_right _ _ Oo]
  congr 2
  omega
 have e2:(n - szS s) % szS s=n % szS s:=by rw [Int.sub_emod_right]
 have e3:0<=(n - szS s) / szS s:=YJ Oo Oo
 unfold adv
 rw [e2,e1,show ((n - szS s) / szS s+1).toNat=((n - szS s) / szS s).toNat+1 by omega]
 rfl
def ownF(fs:List Fe)(f:Int):Int:=if h:0<=f/\f.toNat < fs.length then (fs[f.toNat]'h.2).ow else -1
theorem ownF_at{fs:List Fe}{i:Nat}(h:i < fs.length):ownF fs i=fs[i].ow:=by
 unfold ownF
 rw [dif_pos ⟨Oo,by simpa using h⟩]
 rfl
def GoR(s:Sp)(a k:Int):Int×Int:=if a < 0\/s.ws.length<=a\/k < 0 then (0,2) else if ownF s.fs (a / szS s) = -1 then (0,5) else adv s (a / szS s) (a % szS s+k)
theorem GoR_out{s:Sp}{a k:Int}(h:a < 0\/s.ws.length<=a\/k < 0):GoR s a k=(0,2):=if_pos h
theorem GoR_in{s:Sp}{a k:Int}(h0:0<=a)(h1:a < s.ws.length)(h2:0<=k):GoR s a k=if ownF s.fs (a / szS s) = -1 then (0,5) else adv s (a / szS s) (a % szS s+k):=if_neg Oo
theorem u64_wrap{n:Nat}(h:n < 18446744073709551616):IntKind.u64.wrap (n:Int)=n:=IntWalk.u64_in _ Oo
theorem QdW{a b:Nat}(ha:a < 18446744073709551616)(hb:b < 18446744073709551616):bits BinOp.and IntKind.u64 a b=((a &&& b:Nat):Int)/\bits BinOp.or IntKind.u64 a b=((a ||| b:Nat):Int):=by
 have h1:a &&& b < 2 ^ 64:=Yj Nat.and_le_left Oo
 have h2:a ||| b < 2 ^ 64:=Yp Oo Oo
 constructor
 ·show IntKind.u64.wrap ((BitVec.ofInt 64 (a:Int) &&& BitVec.ofInt 64 (b:Int)).toNat:Int)=_
  rw [BitVec.ofInt_natCast,BitVec.ofInt_natCast,BitVec.toNat_and,BitVec.toNat_ofNat,BitVec.toNat_ofNat,VD Oo,VD Oo,u64_wrap Oo]
 ·show IntKind.u64.wrap ((BitVec.ofInt 64 (a:Int) ||| BitVec.ofInt 64 (b:Int)).toNat:Int)=_
  rw [BitVec.ofInt_natCast,BitVec.ofInt_natCast,BitVec.toNat_or,BitVec.toNat_ofNat,BitVec.toNat_ofNat,VD Oo,VD Oo,u64_wrap Oo]
def hdW(r d:Int):Int:=(1+r+d) * 256+r * 2
def Qc5(r d:Int):Prop:=0<=r/\r<=15/\0<=d/\d<=32
instance(r d:Int):Decidable (Qc5 r d):=by unfold Qc5;infer_instance
def QcE(r d:Int):Int×Int:=if Qc5 r d then (hdW r d,0) else (0,13)
def IsHd(w r d:Int):Prop:=w=hdW r d/\Qc5 r d
structure Hd where
 r:Int
 d:Int
 a:Int
 mv:Bool
 e:Int
def JH(w:Int):Hd :=
 if w % 2=1 then (if 16384<=w / 2 then ⟨0,0,0,false,12⟩ else ⟨0,0,w / 2,true,0⟩)
 else if w % 256 / 2<=15/\1+w % 256 / 2<=w / 256/\w / 256<=33+w % 256 / 2 then ⟨w % 256 / 2,w / 256 - 1 - w % 256 / 2,0,false,0⟩ else ⟨0,0,0,false,12⟩
theorem DecR_hd{r d:Int}(h:Qc5 r d):JH (hdW r d)=⟨r,d,0,false,0⟩:=by
 unfold Qc5 at h
 unfold JH hdW
 have e1:((1+r+d) * 256+r * 2) % 2=0:=by omega
 have e2:((1+r+d) * 256+r * 2) % 256 / 2=r:=by omega
 have e3:((1+r+d) * 256+r * 2) / 256=1+r+d:=by omega
 rw [if_neg Oo,e2,e3,if_pos Oo]
 congr 1
 omega
theorem DecR_ok{w:Int}(h0:0<=w)(h:(JH w).e=0)(hm:(JH w).mv=false):IsHd w (JH w).r (JH w).d:=by
 unfold JH at h hm ⊢
 by_cases h2:w % 2=1
 ·rw [if_pos h2] at h hm
  by_cases h3:16384<=w / 2
  ·rw [if_pos h3] at h;cases h
  ·rw [if_neg h3] at hm;cases hm
 ·rw [if_neg h2] at h hm ⊢
  by_cases h3:w % 256 / 2<=15/\1+w % 256 / 2<=w / 256/\w / 256<=33+w % 256 / 2
  ·rw [if_pos h3]
   unfold IsHd hdW Qc5
   simp only []
   omega
  ·rw [if_neg h3] at h;cases h
def wAt(s:Sp)(a:Int):Int:=if h:0<=a/\a.toNat < s.ws.length then s.ws[a.toNat]'h.2 else 0
theorem wAt_in{s:Sp}{a:Int}(h0:0<=a)(h:a.toNat < s.ws.length):wAt s a=s.ws[a.toNat]:=dif_pos ⟨h0,h⟩
theorem wAt_u{s:Sp}(hW:SpW s)(a:Int):U64 (wAt s a):=by
 unfold wAt
 split
 ·exact hW.1 _ (Wd _)
 ·exact ⟨Od,Od⟩
structure Lk where
 r:Int
 d:Int
 e:Int
def QN(s:Sp)(a:Int):Lk :=
 if ¬ (GoR s a 0).2=0 then ⟨0,0,(GoR s a 0).2⟩
 else if ¬ (JH (wAt s a)).e=0\/(JH (wAt s a)).mv=true then ⟨0,0,12⟩
 else if ¬ (GoR s a ((JH (wAt s a)).r+(JH (wAt s a)).d)).2=0 then ⟨0,0,2⟩
 else ⟨(JH (wAt s a)).r,(JH (wAt s a)).d,0⟩
open Classical in
noncomputable def ShapeR (s:Sp) (a:Int):Lk:=if XA s then QN s a else ⟨0,0,1⟩
theorem ShapeR_t{s:Sp}{a:Int}(h:XA s):ShapeR s a=QN s a:=if_pos h
theorem GoR_e{s:Sp}{a k:Int}(h:(GoR s a k).2=0):0<=a/\a < s.ws.length/\0<=k/\¬ ownF s.fs (a / szS s) = -1/\GoR s a k=adv s (a / szS s) (a % szS s+k)/\0<=itF s.fs ((a % szS s+k) / szS s).toNat (a / szS s):=by
 unfold GoR at h ⊢
 by_cases h1:a < 0\/s.ws.length<=a\/k < 0
 ·rw [if_pos h1] at h;cases h
 ·rw [if_neg h1] at h ⊢
  by_cases h2:ownF s.fs (a / szS s) = -1
  ·rw [if_pos h2] at h;cases h
  ·rw [if_neg h2] at h ⊢
   refine ⟨Oo,Oo,Oo,h2,rfl,?_⟩
   unfold adv at h
   by_cases h3:0<=itF s.fs ((a % szS s+k) / szS s).toNat (a / szS s)
   ·exact h3
   ·rw [if_neg h3] at h;cases h
theorem GoR_v{s:Sp}{a k:Int}(h:(GoR s a k).2=0):(GoR s a k).1=itF s.fs ((a % szS s+k) / szS s).toNat (a / szS s) * szS s+(a % szS s+k) % szS s:=by
 obtain ⟨h1,h2,h3,h4,h5,h6⟩:=GoR_e h
 rw [h5]
 unfold adv
 rw [if_pos h6]
theorem QeH{s:Sp}(hs:Qbs s)(hn:NxIn s.fs){a k:Int}(h:(GoR s a k).2=0):0<=(GoR s a k).1/\(GoR s a k).1 < s.ws.length:=by
 obtain ⟨g1,g2,g3,g4,g5⟩:=hs.z
 obtain ⟨h1,h2,h3,h4,h5,h6⟩:=GoR_e h
 obtain ⟨F,hF,hFl⟩:=ad_frame hs h1 h2
 have h7:=hn.it ((a % szS s+k) / szS s).toNat (a / szS s) Oo
 have h8:0<=(a % szS s+k) % szS s:=V8 _ Oo
 have h9:(a % szS s+k) % szS s < szS s:=Ui _ Oo
 rw [GoR_v h]
 generalize itF s.fs ((a % szS s+k) / szS s).toNat (a / szS s)=g at *
 generalize (a % szS s+k) % szS s=m at *
 have h10:0<=g * szS s:=Yk h6 Oo
 have h11:(g+1) * szS s<=s.fs.length * szS s:=V1 Oo Oo
 have h12:(g+1) * szS s=g * szS s+szS s:=by rw [Int.add_mul,Yq]
 rw [hs.wl]
 push_cast
 omega
theorem QdY{s:Sp}(hs:Qbs s)(hn:NxIn s.fs){a j k:Int}(h:(GoR s a k).2=0)(h0:0<=j)(hj:j<=k):(GoR s a j).2=0:=by
 obtain ⟨g1,g2,g3,g4,g5⟩:=hs.z
 obtain ⟨h1,h2,h3,h4,h5,h6⟩:=GoR_e h
 have hm0:0<=a % szS s:=V8 _ Oo
 have e1:(a % szS s+j) / szS s<=(a % szS s+k) / szS s:=Int.ediv_le_ediv Oo Oo
 have e2:0<=(a % szS s+j) / szS s:=YJ Oo Oo
 have h7:0<=itF s.fs ((a % szS s+j) / szS s).toNat (a / szS s):=by
  rcases UY (itF s.fs ((a % szS s+j) / szS s).toNat (a / szS s)) 0 with h8 | h8
  ·exfalso
   obtain ⟨F,hF,hFl⟩:=ad_frame hs h1 h2
   have h9:=hn.it ((a % szS s+j) / szS s).toNat (a / szS s) Oo
   rw [show ((a % szS s+k) / szS s).toNat=((a % szS s+j) / szS s).toNat+(((a % szS s+k) / szS s).toNat - ((a % szS s+j) / szS s).toNat) by omega,Qbk,JD _ Oo] at h6
   omega
  ·exact h8
 rw [GoR_in h1 h2 h0,if_neg h4]
 unfold adv
 rw [if_pos h7]
theorem LookR_ok{s:Sp}(hW:SpW s){a r d:Int}(h:QN s a=⟨r,d,0⟩):(GoR s a 0).2=0/\JH (wAt s a)=⟨r,d,0,false,0⟩/\Qc5 r d/\wAt s a=hdW r d/\(GoR s a (r+d)).2=0:=by
 unfold QN at h
 by_cases h1:(GoR s a 0).2=0
 ·rw [if_neg (by simp [h1])] at h
  by_cases h2:¬ (JH (wAt s a)).e=0\/(JH (wAt s a)).mv=true
  ·rw [if_pos h2] at h;cases h
  ·rw [if_neg h2] at h
   by_cases h3:(GoR s a ((JH (wAt s a)).r+(JH (wAt s a)).d)).2=0
   ·rw [if_neg (by simp [h3])] at h
    have e1:(JH (wAt s a)).e=0:=Classical.byContradiction λh=>h2 (.inl h)
    have e2:(JH (wAt s a)).mv=false:=by
     cases hm:(JH (wAt s a)).mv
     ·rfl
     ·exact absurd (.inr hm) h2
    have h4:=DecR_ok (wAt_u hW a).1 e1 e2
    injection h with h5 h6
    rw [h5,h6] at h4 h3
    have h7:=DecR_hd h4.2
    rw [<- h4.1] at h7
    exact ⟨h1,h7,h4.2,h4.1,h3⟩
   ·rw [if_pos h3] at h;cases h
 ·rw [if_pos h1] at h
  injection h with _ _ h
  exact absurd h h1
theorem LookR_mk{s:Sp}{a r d:Int}(h1:(GoR s a 0).2=0)(h2:wAt s a=hdW r d)(h3:Qc5 r d)(h4:(GoR s a (r+d)).2=0):QN s a=⟨r,d,0⟩:=by
 unfold QN
 rw [if_neg (by simp [h1]),h2,DecR_hd h3,if_neg Os,if_neg (by simp [h4])]
def FnR(l:Lk)(ref:Bool):Int:=if ref then l.r else l.d
def FbR(l:Lk)(ref:Bool):Int:=if ref then 1 else 1+l.r
def setS(s:Sp)(x w:Int):Sp:={ s with ws:=s.ws.set x.toNat w }
theorem setS_len(s:Sp)(x w:Int):(setS s x w).ws.length=s.ws.length:=Ww ..
theorem GoR_ws{sh:Int}{ws l:List Int}{fs:List Fe}{a k:Int}(h:l.length=ws.length):GoR ⟨sh,l,fs⟩ a k=GoR ⟨sh,ws,fs⟩ a k:=by
 unfold GoR adv szS
 simp only [h]
def clrL(s:Sp)(a:Int):Nat->List Int->List Int
 | 0,l=>l
 | n+1,l=>(clrL s a n l).set (GoR s a ((n+1:Nat):Int)).1.toNat 0
@[simp] theorem clrL_len(s:Sp)(a:Int)(l:List Int):∀ n,(clrL s a n l).length=l.length
 | 0=>rfl
 | n+1=>by unfold clrL;rw [Ww];exact clrL_len s a l n
theorem end_len{s:Sp}(h:XA s){F:Nat}(hF:F < s.fs.length):itF s.fs s.fs.length F = -1:=by
 have hst:=h.ends.str
 have hnx:=Z1 h.fm
 apply Classical.byContradiction
 intro hne
 have hin:∀ j,j<=s.fs.length->0<=itF s.fs j F/\itF s.fs j F < s.fs.length:=by
  intro j hj
  have h1:=hnx.it j F Oo
  refine ⟨?_,h1.2⟩
  rcases UY (itF s.fs j F) 0 with h2 | h2
  ·exfalso
   apply hne
   rw [show s.fs.length=j+(s.fs.length - j) by omega,Qbk]
   exact JD _ Oo
  ·exact h2
 have hnd:((List.range (s.fs.length+1)).map λj=>(itF s.fs j F).toNat).Nodup:=by
  rw [W1,Vh]
  refine Wx.2 λa b ha hb hab e=>?_
  simp only [WM] at ha hb
  simp only [Yh] at e
  have h1:=hin a Oo
  have h2:=hin b Oo
  have e2:itF s.fs b F=itF s.fs a F:=by omega
  rw [show b=a+((b - a - 1)+1) by omega,Qbk] at e2
  have h3:=hst (itF s.fs a F).toNat Oo (b - a - 1) Oo
  apply h3
  rw [show (((itF s.fs a F).toNat:Nat):Int)=itF s.fs a F by omega]
  exact e2
 have:=Qcv s.fs.length _ hnd λx hx=>by
  obtain ⟨j,hj,rfl⟩:=Wj.1 hx
  have:=hin j (by have:=WC.1 hj;omega)
  omega
 rw [Wb,WM] at this
 omega
def MkE(s:Sp)(a r d:Int):Int:=if Qc5 r d then (GoR s a (r+d)).2 else 13
theorem mod_neg{v n:Int}(hn:1<=n)(h:-((-v) % n) < 0):-((-v) % n)+n=v % n:=by
 have h1:=Int.mul_ediv_add_emod (-v) n
 have h2:=V8 (-v) (by omega:n≠0)
 have h3:=Ui (-v) (by omega:0 < n)
 generalize (-v) % n=m at *
 generalize (-v) / n=p at *
 have h4:v=(n - m)+n * (-p - 1):=by rw [Int.mul_sub,Int.mul_neg,Int.mul_one];omega
 rw [h4,Int.add_mul_emod_self_left,Int.emod_eq_of_lt Oo Oo]
 omega
theorem mod_zero{v n:Int}(hn:1<=n)(h:¬ -((-v) % n) < 0):-((-v) % n)=v % n:=by
 have h2:=V8 (-v) (by omega:n≠0)
 have h3:(-v) % n=0:=by omega
 have h4:v % n=0:=Int.emod_eq_zero_of_dvd (Int.dvd_neg.1 (Int.dvd_of_emod_eq_zero h3))
 omega
def clN(s:Sp)(n:Int):Int:=if n < 0\/1099511627776 < n then 0 else (n+szS s - 1) / szS s
abbrev feF:Fe:=⟨-1,-1,-1⟩
abbrev feZ:Fe:=⟨0,0,0⟩
def frsL(n j:Nat):List Fe:=(List.range n).map λi=>if i < j then feF else feZ
@[simp] theorem frsL_len(n j:Nat):(frsL n j).length=n:=by unfold frsL;simp
def newS(k:Int)(n:Nat):Sp:=⟨k,List.replicate (n * 2 ^ k.toNat) 0,List.replicate n feF⟩
theorem Qca{s:Sp}(hs:Qcg s.sh)(n:Int):0<=clN s n/\clN s n<=1099511627776:=by
 obtain ⟨g1,g2,g3,g4,g5⟩:=XC hs
 unfold clN
 split
 ·omega
 ·rename_i h
  refine ⟨YJ Oo Oo,?_⟩
  have h1:(n+szS s - 1) / szS s<=n:=by
   rcases UY n 1 with h2 | h2
   ·have:n=0:=by omega
    subst this
    rw [YE Oo Oo]
    omega
   ·refine Int.le_of_lt_add_one (Int.ediv_lt_of_lt_mul Oo ?_)
    have h3:n * 1<=n * szS s:=Int.mul_le_mul_of_nonneg_left Oo Oo
    rw [Int.add_mul,Yq]
    omega
  omega
def itL(s:Sp)(F:Int)(m:Nat):List Int:=(List.range m).map λj=>itF s.fs j F
@[simp] theorem itL_len(s:Sp)(F:Int)(m:Nat):(itL s F m).length=m:=by unfold itL;simp
def IsLen(s:Sp)(f:Int)(m:Nat):Prop:=1<=m/\m<=s.fs.length/\itF s.fs m f = -1/\∀ j,j < m->0<=itF s.fs j f/\itF s.fs j f < s.fs.length
theorem IsLen.uniq{s:Sp}{f:Int}{m k:Nat}(h1:IsLen s f m)(h2:IsLen s f k):m=k:=by
 rcases Uy m k with h | h | h
 ·have:=h2.2.2.2 m h;have:=h1.2.2.1;omega
 ·exact h
 ·have:=h1.2.2.2 k h;have:=h2.2.2.1;omega
noncomputable def fldL(s:Sp)(a:Int)(n:Nat):List Int:=(List.range n).map λ(j:Nat)=>(GoR s a (1+(j:Int))).1
@[simp] theorem fldL_len(s:Sp)(a:Int)(n:Nat):(fldL s a n).length=n:=by unfold fldL;simp
theorem mod_c{v n:Int}(hv:I64 v)(hn:1<=n/\n<=9223372036854775807):QaD v n=some (v % n):=by
 unfold I64 at hv
 have hm0:=V8 v (by omega:n≠0)
 have hm1:=Ui v (by omega:0 < n)
 have hm2:=V8 (-v) (by omega:n≠0)
 have hm3:=Ui (-v) (by omega:0 < n)
 refine Gd.eq ?_
 unfold QaD
 refine .pos Oo ?_
 by_cases h0:0<=v
 ·rw [VW h0]
  exact .neg Oo (.some rfl)
 ·have e:Int.tmod v n = -((-v) % n):=by
   rw [<- VW (a:=-v) Oo,Int.neg_tmod,Int.neg_neg]
  rw [e]
  refine .ite (λh=>.some ?_) λh=>.some (mod_zero hn.1 h)
  have h2:=mod_neg hn.1 h
  rw [Qd Oo,h2]
theorem sh_1{s:Sp}(hs:Qcg s.sh):Qcq .i64 1 (wu s.sh)=(szS s:Int):=by
 have:=shl_k hs (a:=1) 1 rfl Oo
 rw [Yr] at this
 exact this
theorem sh_a{s:Sp}(hs:Qcg s.sh){a:Int}(h0:0<=a)(h1:a<=9223372036854775807):bits BinOp.and IntKind.i64 a ((szS s:Int) - 1)=a % (szS s:Int):=by
 obtain ⟨e,z,he,h1',h2,h3,h4,h5,h6,h7⟩:=sh_get hs
 rw [h6]
 exact and_mod h0 h1 h2 h7
theorem go_c{s:Sp}(hs:Qbs s)(hn:NxIn s.fs){a k:Int}(ha:I64 a)(hk:I64 k):QB s a k=some (GoR s a k):=by
 obtain ⟨g1,g2,g3,g4,g5⟩:=hs.z
 have hsm:=hs.small
 unfold I64 at ha hk
 refine Gd.eq ?_
 unfold QB
 refine .ite (λh=>.some (GoR_out (.inl h)).symm) λh1=>?_
 refine .ite (λh=>.some (GoR_out (.inr (.inl h))).symm) λh2=>?_
 refine .ite (λh=>.some (GoR_out (.inr (.inr h))).symm) λh3=>?_
 refine .pos (wu_sh hs.sh) ?_
 rw [GoR_in Oo Oo Oo]
 obtain ⟨F,hF,hFl⟩:=ad_frame hs (a:=a) Oo Oo
 have hm0:=V8 a (by omega:(szS s:Int)≠0)
 have hm1:=Ui a (by omega:(0:Int) < szS s)
 rw [shr_k hs.sh a.toNat Oo,sh_1 hs.sh,Qd (n:=(szS s:Int) - 1) Oo,sh_a hs.sh Oo Oo,hF,show a.toNat / szS s=F by
  have:((a.toNat / szS s:Nat):Int)=a / szS s:=by rw [Ub,Vl Oo]
  omega]
 refine .atN hFl ?_
 rw [ownF_at hFl]
 refine .ite (λh=>.some (by rw [if_pos h])) λh4=>?_
 rw [if_neg h4]
 refine Gd.bndR (P:=λz=>(∃ n f o:Int,z = .inl (n,f,o)/\0<=f/\f < s.fs.length/\0<=o/\0<=n/\o+n < szS s/\adv s F (a % szS s+k)=adv s f (o+n))\/(z = .inr (0,2)/\adv s F (a % szS s+k)=(0,2))) ?_ (λz hP=>?_) (λr hP=>?_)
 ·refine Gd.loop (λx:Int×Int×Int=>0<=x.2.1/\x.2.1 < s.fs.length/\0<=x.2.2/\x.2.2 < szS s/\0<=x.1/\x.1<=9223372036854775807/\adv s F (a % szS s+k)=adv s x.2.1 (x.2.2+x.1)) _ (λx=>x.1.toNat) ⟨by dsimp only;omega,by dsimp only;omega,hm0,hm1,by dsimp only;omega,by dsimp only;omega,rfl⟩ ?_
  rintro ⟨n,f,o⟩ ⟨i1,i2,i3,i4,i5,i6,i7⟩
  dsimp only at i1 i2 i3 i4 i5 i6 i7 ⊢
  rw [Qd (n:=(szS s:Int) - o) Oo]
  refine .ite (λh5=>?_) λh5=>.out (.inl ⟨n,f,o,rfl,i1,i2,i3,i5,Oo,i7⟩)
  refine .at i1 Oo ?_
  have hx:=hn f.toNat Oo
  have e1:=adv_ge (s:=s) (f:=f) (n:=o+n) Oo Oo
  rw [nxF_z i1 Oo] at e1
  refine .ite (λh6=>.out (.inr ⟨rfl,?_⟩)) λh6=>?_
  ·rw [i7,e1];exact adv_neg h6
  ·rw [Qd (n:=n - ((szS s:Int) - o)) Oo]
   refine .go ⟨by dsimp only;omega,by dsimp only;omega,by dsimp only;omega,by dsimp only;omega,by dsimp only;omega,by dsimp only;omega,?_⟩ (by dsimp only;omega)
   dsimp only
   rw [i7,e1]
   congr 1
   omega
 ·rcases hP with ⟨n,f,o,h,i1,i2,i3,i4,i5,i6⟩ | ⟨h,_⟩
  ·injection h with h
   subst h
   dsimp only
   rw [i6,adv_lt i1 Oo i5,shl_k hs.sh f.toNat Oo (by have:=hs.hi;omega)]
   have hfz:f.toNat * szS s<=64 * 256:=Uh (by have:=hs.hi;omega) g4
   have hfe:((f.toNat * szS s:Nat):Int)=f * szS s:=by push_cast;rw [Vl i1]
   rw [hfe]
   rw [Qd (n:=f * szS s+o) Oo,Qd (n:=f * szS s+o+n) Oo,Int.add_assoc]
   exact .some rfl
  ·cases h
 ·rcases hP with ⟨n,f,o,h,_⟩ | ⟨h,hP⟩
  ·cases h
  ·injection h with h
   rw [h,hP]
theorem frames_c{s:Sp}(hs:Qcg s.sh){n:Int}(hn:I64 n):XS n s.sh=some (clN s n):=by
 obtain ⟨g1,g2,g3,g4,g5⟩:=XC hs
 unfold I64 at hn
 refine Gd.eq ?_
 unfold XS clN
 refine .ite (λh=>.some (by rw [if_pos (.inl h)])) λh1=>?_
 refine .ite (λh=>.some (by rw [if_pos (.inr h)])) λh2=>?_
 refine .neg Oo (.neg Oo (.pos (wu_sh hs) (.some ?_)))
 rw [if_neg Oo,sh_1 hs,Qd (n:=n+szS s) Oo,Qd (n:=n+szS s - 1) Oo,shr_k hs (n+szS s - 1).toNat Oo,Ub,Vl Oo]
theorem Qaq{s:Sp}(hs:Qcg s.sh){i:Inc}(hi:I64 i.words):QE s i=some (clN s i.words):=by
 unfold QE
 rw [frames_c hs hi]
 rfl
theorem extra_c{s:Sp}(hs:Qcg s.sh){i:Inc}{n:Int}(hi:I64 i.words)(h:I64 (i.words+n)):ZF s i n=some (clN s (i.words+n) - clN s i.words):=by
 unfold ZF
 have c1:=Qca hs (i.words+n)
 have c2:=Qca hs i.words
 have h':=h
 unfold I64 at h'
 rw [Qd (n:=i.words+n) Oo,frames_c hs h,Qaq hs hi]
 simp only [WZ]
 rw [Qd Oo]
theorem live_c(r d:Int):Xc r d=some (QcE r d):=by
 refine Gd.eq ?_
 unfold Xc QcE
 refine .ite (λh=>.some (by rw [if_neg λk=>by unfold Qc5 at k;omega])) λh1=>?_
 refine .ite (λh=>.some (by rw [if_neg λk=>by unfold Qc5 at k;omega])) λh2=>?_
 refine .ite (λh=>.some (by rw [if_neg λk=>by unfold Qc5 at k;omega])) λh3=>?_
 refine .ite (λh=>.some (by rw [if_neg λk=>by unfold Qc5 at k;omega])) λh4=>.some ?_
 rw [if_pos ⟨Oo,Oo,Oo,Oo⟩,Qd (n:=1+r) Oo,Qd (n:=1+r+d) Oo,Qd (n:=(1+r+d) * 256) Oo,Qd (n:=r * 2) Oo,Qd (n:=(1+r+d) * 256+r * 2) Oo,Jd Oo]
 rfl
theorem clone_w{l:List Int}(h:l.length<=4294967296):X9 l=some l:=by
 unfold X9
 rw [if_pos ⟨Oo,Oo⟩]
theorem copy_c{s:Sp}(h1:s.ws.length<=4294967296)(h2:s.fs.length<=4294967296):XR s=some s:=by
 refine Gd.eq ?_
 unfold XR
 exact .call (clone_w h1) (.pos ⟨Oo,Oo⟩ (.some rfl))
theorem make_c{s:Sp}(hs:Qbs s)(hn:NxIn s.fs){a r d:Int}(ha:I64 a):XP s a r d=some (if MkE s a r d=0 then (0,clrL s a (r+d).toNat (s.ws.set a.toNat (hdW r d))) else (MkE s a r d,s.ws)):=by
 refine Gd.eq ?_
 unfold XP MkE
 refine .call (live_c r d) ?_
 unfold QcE
 by_cases hh:Qc5 r d
 ·rw [if_pos hh,if_pos hh]
  have hh2:=hh
  unfold Qc5 at hh2
  refine .pos rfl ?_
  rw [Qd (n:=r+d) Oo]
  refine .call (go_c hs hn ha (by unfold I64;omega)) ?_
  refine .ite (λhg=>?_) λhg=>.some (by rw [if_neg hg])
  rw [if_pos hg]
  obtain ⟨a1,a2,_⟩:=GoR_e hg
  refine .at a1 Oo ?_
  refine Gd.bind (P:=λb=>b=clrL s a (r+d).toNat (s.ws.set a.toNat (hdW r d))) ?_ λb hb=>.some (by rw [hb])
  refine Gd.loop (λx:List Int×Int=>∃ j:Nat,x=(clrL s a j (s.ws.set a.toNat (hdW r d)),((j+1:Nat):Int))/\j<=(r+d).toNat) _ (λx=>(r+d).toNat+1 - x.2.toNat) ⟨0,rfl,W9 _⟩ ?_
  rintro x ⟨j,rfl,hj⟩
  dsimp only
  refine .ite (λhlt=>?_) λhlt=>.out (by rw [show j=(r+d).toNat by omega])
  have hgj:(GoR s a ((j+1:Nat):Int)).2=0:=QdY hs hn hg Oo Oo
  have hr:=QeH hs hn hgj
  have hcl:(clrL s a j (s.ws.set a.toNat (hdW r d))).length=s.ws.length:=by simp
  refine .call (go_c (s:=⟨s.sh,clrL s a j (s.ws.set a.toNat (hdW r d)),s.fs⟩) ⟨hs.sh,hs.lo,hs.hi,by rw [hcl];exact hs.wl⟩ hn ha (by unfold I64;omega)) ?_
  rw [show GoR ⟨s.sh,clrL s a j (s.ws.set a.toNat (hdW r d)),s.fs⟩ a ((j+1:Nat):Int)=GoR s a ((j+1:Nat):Int) from GoR_ws (ws:=s.ws) hcl]
  refine .at hr.1 (by rw [hcl];have:=hr.2;omega) ?_
  have e1:w64 (((j+1:Nat):Int)+1)=((j+1+1:Nat):Int):=Qd Oo
  rw [e1]
  exact .go ⟨j+1,rfl,Oo⟩ (by dsimp only;omega)
 ·rw [if_neg hh,if_neg hh]
  exact .neg Od (.some rfl)
theorem decode_c{w:Int}(hw:U64 w):ZU w=some ((JH w).r,(JH w).d,(JH w).a,(JH w).mv,(JH w).e):=by
 unfold U64 at hw
 have t1:Int.tmod w 2=w % 2:=VW hw.1
 have t2:Int.tdiv w 2=w / 2:=Uf hw.1
 have t3:Int.tmod w 256=w % 256:=VW hw.1
 have t4:Int.tdiv w 256=w / 256:=Uf hw.1
 have t5:Int.tdiv (w % 256) 2=w % 256 / 2:=Uf Oo
 refine Gd.eq ?_
 unfold ZU JH
 rw [t1,t2,t3,t4,t5,Jd (n:=w / 2) Oo,Jd (n:=w / 256) Oo,Jd (n:=w % 256 / 2) Oo,Qd (n:=w % 256 / 2) Oo,Qd (n:=w / 2) Oo,Qd (n:=w / 256) Oo,Qd (n:=1+w % 256 / 2) Oo,Qd (n:=w / 256 - 1) Oo,Qd (n:=w / 256 - 1 - w % 256 / 2) Oo]
 by_cases h1:w % 2=1
 ·rw [if_pos h1,if_pos h1]
  by_cases h2:16384<=w / 2
  ·rw [if_pos h2,if_pos h2];exact .some rfl
  ·rw [if_neg h2,if_neg h2];exact .some rfl
 ·rw [if_neg h1,if_neg h1]
  by_cases h:w % 256 / 2<=15/\1+w % 256 / 2<=w / 256/\w / 256<=33+w % 256 / 2
  ·rw [if_pos h,if_neg Oo,if_neg Oo,if_neg Oo,if_neg Oo];exact .some rfl
  ·rw [if_neg h]
   refine .ite (λ_=>.some rfl) λh2=>?_
   refine .ite (λ_=>.some rfl) λh3=>?_
   refine .ite (λ_=>.some rfl) λh4=>?_
   refine .ite (λ_=>.some rfl) λh5=>?_
   omega
theorem DecR_rng{w:Int}(hw:U64 w):0<=(JH w).r/\(JH w).r<=15/\0<=(JH w).d/\(JH w).d<=32/\0<=(JH w).a/\(JH w).a < 16384:=by
 unfold U64 at hw
 unfold JH
 by_cases h1:w % 2=1
 ·rw [if_pos h1]
  by_cases h2:16384<=w / 2
  ·rw [if_pos h2];dsimp only;omega
  ·rw [if_neg h2];dsimp only;omega
 ·rw [if_neg h1]
  by_cases h:w % 256 / 2<=15/\1+w % 256 / 2<=w / 256/\w / 256<=33+w % 256 / 2
  ·rw [if_pos h];dsimp only;omega
  ·rw [if_neg h];dsimp only;omega
def fwdW(b:Int):Int:=2 * b+1
theorem DecR_fwd{b:Int}(h:0<=b/\b < 16384):JH (fwdW b)=⟨0,0,b,true,0⟩:=by
 unfold JH fwdW
 rw [if_pos Oo,if_neg Oo]
 congr 1
 omega
theorem forward_c{b:Int}(h:0<=b/\b < 16384):Xd b=some (fwdW b,0):=by
 unfold Xd
 rw [if_neg Oo,if_neg Oo,Qd (n:=2 * b) Oo,Qd (n:=2 * b+1) Oo,Jd Oo]
 rfl
theorem Xy{s:Sp}{a:Nat}{w:Int}(h:s.ws[a]?=some w):wAt s (a:Int)=w:=by
 have hl:a < s.ws.length:=by
  rcases Wq a s.ws.length with h' | h'
  ·exact h'
  ·rw [Wf h'] at h;cases h
 rw [wAt_in Oo (by rw [Wc];exact hl)]
 rw [Wa hl] at h
 simpa using h
theorem wAt_at{s:Sp}{a:Int}(h0:0<=a)(h:a.toNat < s.ws.length):wAt s a=s.ws[a.toNat]:=by
 obtain ⟨n,rfl⟩:∃ n:Nat,a=n:=⟨a.toNat,Oo⟩
 exact Xy (Wa h)
theorem look_c{s:Sp}(hs:Qbs s)(hn:NxIn s.fs)(hW:SpW s){a:Int}(ha:I64 a):Q4 s a=some ((QN s a).r,(QN s a).d,(QN s a).e):=by
 refine Gd.eq ?_
 unfold Q4 QN
 refine .call (go_c hs hn ha (by unfold I64;omega)) ?_
 refine .ite (λh1=>?_) λh1=>.some (by rw [if_pos h1])
 rw [if_neg (by simp [h1])]
 obtain ⟨a1,a2,_⟩:=GoR_e h1
 have hu:U64 (wAt s a):=wAt_u hW a
 refine .at a1 Oo ?_
 rw [<- wAt_at a1 Oo]
 refine .call (decode_c hu) ?_
 dsimp only
 refine .ite (λh2=>?_) λh2=>.some (by rw [if_pos (.inl h2)])
 refine .ite (λh3=>.some (by rw [if_pos (.inr h3)])) λh3=>?_
 rw [if_neg (by simp [h2,h3])]
 have hr:=DecR_rng hu
 rw [Qd (n:=(JH (wAt s a)).r+(JH (wAt s a)).d) Oo]
 refine .call (go_c hs hn ha (by unfold I64;omega)) ?_
 refine .ite (λh4=>.some (by rw [if_neg (by simp [h4])])) λh4=>.some (by rw [if_pos h4])
noncomputable def PlcR(s:Sp)(a i:Int)(ref:Bool):Int×Int:=if ¬ (QN s a).e=0 then (0,(QN s a).e) else if i < 0\/FnR (QN s a) ref<=i then (0,17) else ((GoR s a (FbR (QN s a) ref+i)).1,0)
theorem look_rng{s:Sp}(hW:SpW s){a:Int}(h:(QN s a).e=0):Qc5 (QN s a).r (QN s a).d/\(GoR s a ((QN s a).r+(QN s a).d)).2=0:=by
 obtain ⟨h1,h2,h3,h4,h5⟩:=LookR_ok hW (r:=(QN s a).r) (d:=(QN s a).d) (by cases hl:QN s a with | mk r d e=>rw [hl] at h;dsimp only at h ⊢;rw [h])
 exact ⟨h3,h5⟩
theorem place_c{s:Sp}(hs:Qbs s)(hn:NxIn s.fs)(hW:SpW s){a i:Int}(ha:I64 a)(hi:I64 i)(ref:Bool):ZG s a i ref=some (PlcR s a i ref):=by
 refine Gd.eq ?_
 unfold ZG PlcR
 refine .call (look_c hs hn hW ha) ?_
 dsimp only
 refine .ite (λhe=>?_) λhe=>.some (by rw [if_pos he])
 rw [if_neg (by simp [he])]
 obtain ⟨h1,h2⟩:=look_rng hW he
 unfold Qc5 at h1
 refine .ite (λhr=>?_) λhr=>?_
 ·subst hr
  refine .ite (λh=>.some (by rw [if_pos (.inl h)])) λh3=>?_
  refine .ite (λh=>.some (by rw [if_pos (.inr h)])) λh4=>?_
  have h5:i < (QN s a).r:=by omega
  rw [if_neg (show ¬ (i < 0\/FnR (QN s a) true<=i) from by show ¬ (i < 0\/(QN s a).r<=i);omega),Qd (n:=1+i) Oo]
  refine .call (go_c hs hn ha (by unfold I64;omega)) (.some ?_)
  show ((GoR s a (1+i)).1,(GoR s a (1+i)).2)=((GoR s a (1+i)).1,0)
  rw [QdY hs hn h2 (j:=1+i) Oo Oo]
 ·have hr:ref=false:=by simpa using hr
  subst hr
  refine .ite (λh=>.some (by rw [if_pos (.inl h)])) λh3=>?_
  refine .ite (λh=>.some (by rw [if_pos (.inr h)])) λh4=>?_
  have h5:i < (QN s a).d:=by omega
  rw [if_neg (show ¬ (i < 0\/FnR (QN s a) false<=i) from by show ¬ (i < 0\/(QN s a).d<=i);omega),Qd (n:=1+(QN s a).r) Oo,Qd (n:=1+(QN s a).r+i) Oo]
  refine .call (go_c hs hn ha (by unfold I64;omega)) (.some ?_)
  show ((GoR s a (1+(QN s a).r+i)).1,(GoR s a (1+(QN s a).r+i)).2)=((GoR s a (1+(QN s a).r+i)).1,0)
  rw [QdY hs hn h2 (j:=1+(QN s a).r+i) Oo Oo]
noncomputable def FldR(s:Sp)(a:Int):List Int×Int:=if (QN s a).e=0 then (fldL s a (QN s a).r.toNat,0) else ([],(QN s a).e)
theorem fldL_succ(s:Sp)(a:Int)(n:Nat):fldL s a (n+1)=fldL s a n++[(GoR s a (1+(n:Int))).1]:=by unfold fldL;rw [VX,WF];rfl
theorem fields_c{s:Sp}(hs:Qbs s)(hn:NxIn s.fs)(hW:SpW s){a:Int}(ha:I64 a):Q5 s a=some (FldR s a):=by
 refine Gd.eq ?_
 unfold Q5 FldR
 refine .call (look_c hs hn hW ha) ?_
 dsimp only
 refine .ite (λhe=>?_) λhe=>.some (by rw [if_neg he])
 rw [if_pos he]
 obtain ⟨h1,h2⟩:=look_rng hW he
 unfold Qc5 at h1
 refine Gd.bind (P:=λb=>b=fldL s a (QN s a).r.toNat) ?_ λb hb=>.some (by rw [hb])
 refine Gd.loop (λx:List Int×Int=>∃ j:Nat,x=(fldL s a j,(j:Int))/\j<=(QN s a).r.toNat) _ (λx=>(QN s a).r.toNat - x.2.toNat) ⟨0,rfl,W9 _⟩ ?_
 rintro x ⟨j,rfl,hj⟩
 dsimp only
 refine .ite (λhlt=>?_) λhlt=>.out (by rw [show j=(QN s a).r.toNat by omega])
 rw [Qd (n:=1+(j:Int)) Oo,Qd (n:=(j:Int)+1) Oo]
 refine .call (go_c hs hn ha (by unfold I64;omega)) (.pos (by rw [fldL_len,WE];omega) ?_)
 exact .go ⟨j+1,by rw [fldL_succ];rfl,Oo⟩ (by dsimp only;omega)
section
variable{α β σ τ:Type}
theorem Gd.for{Q:β->Prop}{B:σ->Option (LS σ β)}{b:σ->β}{π:σ->Int}{s0:σ}(n:Nat)(mk:τ->Int->σ)(I:Nat->τ->Prop)(t0:τ)(hs:s0=mk t0 0)(hπ:∀ t i,π (mk t i)=i)(hn:n<=9223372036854775806)(h0:I 0 t0)
  (hgo:∀ i,i < n->∀ t,I i t->Gd (λa=>(∃ t',a=LS.go (mk t' (w64 ((i:Int)+1)))/\I (i+1) t')\/(∃ o,a=LS.out o/\Q o)) (B (mk t i)))(hout:∀ t,I n t->Q (b (mk t n))) :
  Gd Q (Qi (λs=>if π s < (n:Int) then B s else .some (LS.out (b s))) s0):=by
 refine Gd.loop (λx:σ=>∃ i:Nat,∃ t,x=mk t i/\i<=n/\I i t) _ (λx=>n - (π x).toNat) ⟨0,t0,hs,W9 _,h0⟩ ?_
 rintro x ⟨i,t,rfl,hi,hI⟩
 refine .ite (λhlt=>?_) λhlt=>.out ?_
 ·rw [hπ] at hlt
  obtain ⟨a,h1,h2⟩:=hgo i Oo t hI
  refine ⟨a,h1,?_⟩
  rcases h2 with ⟨t',rfl,h3⟩ | ⟨o,rfl,h3⟩
  ·have e1:w64 ((i:Int)+1)=((i+1:Nat):Int):=Qd Oo
   rw [e1]
   refine ⟨⟨i+1,t',rfl,Oo,h3⟩,?_⟩
   show n - (π (mk t' ((i+1:Nat):Int))).toNat < n - (π (mk t (i:Int))).toNat
   rw [hπ,hπ]
   omega
  ·exact h3
 ·rw [hπ] at hlt
  obtain rfl:i=n:=by omega
  exact hout t hI
theorem XD{l:List α}{v:α}{k:Int}(h:l.length<=1000000)(hk:0<=k/\k<=1000):((l.length:Int)+[v].length) * k<=140737488355328/\(l.length:Int)+[v].length<=9223372036854775807:=by
 rw [WE]
 have:=YQ (show (l.length:Int)+((1:Nat):Int)<=1000001 by omega) hk.2 hk.1 Oo
 omega
theorem appL_in{l v:List α}{k:Int}(h:l.length+v.length<=1000000)(hk:0<=k/\k<=1000):((l.length:Int)+v.length) * k<=140737488355328/\(l.length:Int)+v.length<=9223372036854775807:=by
 have:=YQ (show (l.length:Int)+(v.length:Int)<=1000001 by omega) hk.2 hk.1 Oo
 omega
theorem len_in{l:List α}{k:Int}(h:l.length<=1000000)(hk:0<=k/\k<=1000):(l.length:Int) * k<=140737488355328/\(l.length:Int)<=9223372036854775807:=by
 have:=YQ (show (l.length:Int)<=1000001 by omega) hk.2 hk.1 Oo
 omega
theorem QF{l:List α}{i:Nat}(h:i < l.length):l.take (i+1)=l.take i++[l[i]]:=by rw [List.take_add_one,Wa h];rfl
theorem QcY{l:List α}{i:Nat}(h:i < l.length)(f:σ->α->σ)(t:σ):(l.take (i+1)).foldl f t=f ((l.take i).foldl f t) l[i]:=by rw [QF h,Uz];rfl
theorem Gd.fold{Q:β->Prop}{B:σ->Option (LS σ β)}{b:σ->β}{π:σ->Int}{s0:σ}(l:List α)(mk:τ->Int->σ)(f:τ->α->τ)(t0:τ)(I:Nat->τ->Prop)(hs:s0=mk t0 0)(hπ:∀ t i,π (mk t i)=i)(hn:l.length<=9223372036854775806)(h0:I 0 t0)
  (hgo:∀ i (h:i < l.length) t,I i t->I (i+1) (f t l[i])/\Gd (λa=>a=LS.go (mk (f t l[i]) (w64 ((i:Int)+1)))) (B (mk t i)))(hout:I l.length (l.foldl f t0)->Q (b (mk (l.foldl f t0) l.length))) :
  Gd Q (Qi (λs=>if π s < (l.length:Int) then B s else .some (.out (b s))) s0):=by
 refine Gd.for l.length mk (λi t=>t=(l.take i).foldl f t0/\I i t) t0 hs hπ hn ⟨Os,h0⟩ (λi hi t ht=>?_) (λt ht=>?_)
 ·obtain ⟨h1,h2⟩:=hgo i hi t ht.2
  exact .of h2.eq (.inl ⟨_,rfl,by rw [QcY hi,<- ht.1],h1⟩)
 ·obtain ⟨rfl,h2⟩:=ht
  rw [WH] at h2 ⊢
  exact hout h2
theorem Gd.find{Q:β->Prop}{B:Int->Option (LS Int β)}{b:Int->β}(l:List α)(p:α->Prop)(hn:l.length<=9223372036854775806)
  (hgo:∀ i (h:i < l.length),(∀ j (h:j < l.length),j < i->¬ p l[j])->Gd (λa=>(¬ p l[i]/\a=LS.go (w64 ((i:Int)+1)))\/(p l[i]/\∃ o,a=LS.out o/\Q o)) (B i))(hout:(∀ x∈l,¬ p x)->Q (b l.length)) :
  Gd Q (Qi (λs=>if s < (l.length:Int) then B s else .some (LS.out (b s))) 0):=by
 refine Gd.for l.length (λ(_:Unit) i=>i) (λi _=>∀ j (h:j < l.length),j < i->¬ p l[j]) () rfl (λ_ _=>rfl) hn (λj _ h=>absurd h (Vo _)) (λi hi t ht=>?_) (λt ht=>?_)
 ·refine (hgo i hi ht).mono λa ha=>?_
  rcases ha with ⟨h1,rfl⟩ | ⟨_,h2⟩
  ·exact .inl ⟨(),rfl,λj h hj=>by
    by_cases e:j=i
    ·subst e;exact h1
    ·exact ht j h Oo⟩
  ·exact .inr h2
 ·refine hout λx hx=>?_
  obtain ⟨j,hj,rfl⟩:=WQ.1 hx
  exact ht j hj hj
end
theorem Qbp{α:Type}(p:α->Bool)(l:List α):∀ t:List α,l.foldl (λt x=>if p x=true then t++[x] else t) t=t++l.filter p:=by
 induction l with
 | nil=>intro t;simp
 | cons a l ih =>
  intro t
  by_cases h:p a=true
  ·simp [ih,h]
  ·simp [ih,h]
theorem rin_c(l:List Int)(v:Int)(hl:l.length<=9223372036854775806):XK l v=some (decide (v∈l)):=by
 refine Gd.eq ?_
 unfold XK
 refine Gd.bndR (P:=λz=>(z = .inl ()/\¬ v∈l)\/(z = .inr true/\v∈l)) ?_ (λ_ hP=>?_) (λr hP=>?_)
 ·refine Gd.find l (λx=>x=v) hl (λi hi h=>?_) (λh=>.inl ⟨rfl,λhv=>h v hv rfl⟩)
  refine .atN hi (.ite (λh=>.some (.inr ⟨h,_,rfl,.inr ⟨rfl,h▸Wd _⟩⟩)) λh=>.some (.inl ⟨h,rfl⟩))
 ·rcases hP with ⟨_,h⟩ | ⟨h,_⟩
  ·exact .some (by rw [decide_eq_false h])
  ·cases h
 ·rcases hP with ⟨h,_⟩ | ⟨h,k⟩
  ·cases h
  ·injection h with h;rw [h,decide_eq_true k]
def Q7(r:Rts):List Nat:=(List.range r.used.length).filter λi=>r.used[i]? == some true
theorem live20_c(r:Rts)(h:r.used.length<=65536):Zy r=some ((Q7 r).map λi=>((i+1:Nat):Int)):=by
 refine Gd.eq ?_
 unfold Zy
 refine Gd.bind (P:=λb=>b=(Q7 r).map λi=>((i+1:Nat):Int)) ?_ λb hb=>.some hb
 refine Gd.for r.used.length (λ(t:List Int) i=>(t,i)) (λi t=>t=((List.range i).filter λi=>r.used[i]? == some true).map λi=>((i+1:Nat):Int)) [] rfl (λ_ _=>rfl) Oo rfl (λi hi t ht=>?_) (λt ht=>ht)
 have hlt:t.length<=1000000:=by
  rw [ht,Wb]
  have:=WN (λi=>r.used[i]? == some true) (List.range i)
  rw [WM] at this
  omega
 refine .atN hi ?_
 have e1:w64 ((i:Int)+1)=((i+1:Nat):Int):=Qd Oo
 rw [VX,Vj,WF,<- ht]
 refine .ite (λhu=>.pos (XD hlt Oo) (.some (.inl ⟨_,rfl,?_⟩))) λhu=>.some (.inl ⟨_,rfl,?_⟩)
 ·dsimp only
  rw [e1]
  simp [Wa hi,hu]
 ·simp [Wa hi,hu]
def isC(fs:List Fe)(l:List Inc)(k:Nat):Bool:=match fs[k]? with | some f=>decide (f.ow∈l.map Inc.seq) | none=>false
def cfr(fs:List Fe)(l:List Inc):List Nat:=(List.range fs.length).filter (isC fs l)
theorem Qcw{fs:List Fe}{l:List Inc}{k:Nat}(h:k < fs.length):isC fs l k=decide (fs[k].ow∈l.map Inc.seq):=by unfold isC;rw [Wa h]
theorem Qbl{fs:List Fe}{l:List Inc}{k:Nat}:isC fs l k=true<->∃ h:k < fs.length,fs[k].ow∈l.map Inc.seq:=by
 by_cases h:k < fs.length
 ·rw [Qcw h,decide_eq_true_iff];exact ⟨λa=>⟨h,a⟩,λ⟨_,a⟩=>a⟩
 ·unfold isC;rw [Wf Oo];exact ⟨λh=>(nomatch h),λ⟨a,_⟩=>absurd a h⟩
theorem QcV{fs:List Fe}{l:List Inc}{k:Nat}:k∈cfr fs l<->isC fs l k=true:=by
 unfold cfr
 rw [WI,WC]
 exact ⟨λh=>h.2,λh=>⟨(Qbl.1 h).1,h⟩⟩
theorem mem_nat{l:List Nat}{k:Nat}:(k:Int)∈l.map (λ(k:Nat)=>(k:Int))<->k∈l:=by
 rw [Wj]
 refine ⟨λ⟨a,h,e⟩=>?_,λh=>⟨k,h,rfl⟩⟩
 obtain rfl:a=k:=by omega
 exact h
theorem frames22_c(s:Sp)(l:List Inc)(h:s.fs.length<=65536)(hl:l.length<=9223372036854775806):Zp s l=some ((cfr s.fs l).map λ(k:Nat)=>(k:Int)):=by
 refine Gd.eq ?_
 unfold Zp
 refine Gd.bind (P:=λb=>b=(cfr s.fs l).map λ(k:Nat)=>(k:Int)) ?_ λb hb=>.some hb
 refine Gd.for s.fs.length (λ(t:List Int) i=>(t,i)) (λi t=>t=((List.range i).filter (isC s.fs l)).map λ(k:Nat)=>(k:Int)) [] rfl (λ_ _=>rfl) Oo rfl (λi hi t ht=>?_) (λt ht=>ht)
 have hlt:t.length<=1000000:=by
  rw [ht,Wb]
  have:=WN (isC s.fs l) (List.range i)
  rw [WM] at this
  omega
 refine Gd.bind (P:=λb=>b=((List.range (i+1)).filter (isC s.fs l)).map λ(k:Nat)=>(k:Int)) ?_ λb hb=>.some (.inl ⟨_,rfl,hb⟩)
 refine .atN hi ?_
 rw [VX,Vj,WF,<- ht]
 refine Gd.find l (λx=>s.fs[i].ow=x.seq) hl (λj hj h=>?_) (λh=>?_)
 ·refine .atN hj (.ite (λhc=>.pos (XD hlt Oo) (.some (.inr ⟨hc,_,rfl,?_⟩))) λhc=>.some (.inl ⟨hc,rfl⟩))
  have:isC s.fs l i=true:=by rw [Qcw hi,decide_eq_true_iff,hc];exact WT (Wd hj)
  simp [this]
 ·have:isC s.fs l i=false:=by
   rw [Qcw hi,decide_eq_false_iff_not]
   intro hm
   obtain ⟨x,hx,e⟩:=Wj.1 hm
   exact h x hx e.symm
  simp [this]
def QaY(s:Sp)(l:List Inc)(w:Int):Prop:=(¬ w=0/\w<=s.ws.length)/\isC s.fs l (Jf s (w - 1))=true
theorem QcO{s:Sp}(hs:XA s)(l:List Inc)(hl:l.length<=9223372036854775806){w:Int}(hw:U64 w):Zo s l w=some (bP (QaY s l w)):=by
 have hwl:=XT hs
 unfold U64 at hw
 refine Gd.eq ?_
 unfold Zo
 rw [Jd (n:=(s.ws.length:Int)) Oo]
 refine .ite (λh=>.f λk=>k.1.1 h) λh0=>?_
 refine .ite (λh=>.f λk=>by have:=k.1.2;omega) λh1=>?_
 refine .pos (wu_sh hs.shp.sh) ?_
 rw [Jd (n:=w - 1) Oo,Qd (n:=w - 1) Oo,shr_k hs.shp.sh (w - 1).toNat Oo]
 have hf:=frOf_lt hs (a:=w - 1) Oo Oo
 refine .atN hf ?_
 refine Gd.bndR (P:=λz=>(z = .inl ()/\¬ QaY s l w)\/(z = .inr true/\QaY s l w)) ?_ (λ_ hP=>?_) (λr hP=>?_)
 ·refine Gd.find l (λx=>s.fs[Jf s (w - 1)].ow=x.seq) hl (λj hj h=>?_) (λh=>.inl ⟨rfl,λk=>?_⟩)
  ·refine .atN hj (.ite (λhc=>.some (.inr ⟨hc,_,rfl,.inr ⟨rfl,⟨h0,Oo⟩,?_⟩⟩)) λhc=>.some (.inl ⟨hc,rfl⟩))
   rw [Qcw hf,decide_eq_true_iff,show s.fs[Jf s (w - 1)].ow=l[j].seq from hc]
   exact WT (Wd hj)
  ·have:=k.2
   rw [Qcw hf,decide_eq_true_iff] at this
   obtain ⟨x,hx,e⟩:=Wj.1 this
   exact h x hx e.symm
 ·rcases hP with ⟨_,h⟩ | ⟨h,_⟩
  ·exact .f h
  ·cases h
 ·rcases hP with ⟨h,_⟩ | ⟨h,k⟩
  ·cases h
  ·injection h with h;rw [h,Qc3 k]
structure Qar(r:Rts):Prop where
 u:r.used.length=32
 v:r.refs.length=32
 z:∀ i (h:i < r.used.length) (h':i < r.refs.length),r.used[i]=false->r.refs[i]=0
 w:∀ x∈r.refs,U64 x
theorem Zf{r:Rts}{i:Nat}:i∈Q7 r<->r.used[i]?=some true:=by
 unfold Q7
 rw [WI,WC]
 exact ⟨λh=>by simpa using h.2,λh=>⟨(Wi.1 h).1,by simp [h]⟩⟩
def Qr(r:Rts)(i:Nat):Int:=(r.refs[i]?).getD 0
noncomputable def Jj(s:Sp)(r:Rts)(l:List Inc):List Nat:=(Q7 r).filter λi=>bP (QaY s l (Qr r i))
theorem Qel(r:Rts):(Q7 r).length<=r.used.length:=by
 have:=WN (λi=>r.used[i]? == some true) (List.range r.used.length)
 rw [WM] at this
 exact this
theorem handles22_c{s:Sp}(hs:XA s){r:Rts}(hr:Qar r)(l:List Inc)(hl:l.length<=9223372036854775806):Zv s r l=some ((Jj s r l).map λi=>((i+1:Nat):Int)):=by
 refine Gd.eq ?_
 unfold Zv
 refine Gd.bind (P:=λb=>b=(Jj s r l).map λi=>((i+1:Nat):Int)) ?_ λb hb=>.some hb
 have h32:=hr.u
 refine .call (live20_c r Oo) ?_
 have hln:=Qel r
 have hL:((Q7 r).map λi=>((i+1:Nat):Int)).length<=32:=by rw [Wb];omega
 refine Gd.fold ((Q7 r).map λi=>((i+1:Nat):Int)) (λ(t:List Int) i=>(t,i)) (λt x=>if bP (QaY s l (Qr r (x.toNat - 1)))=true then t++[x] else t) [] (λi t=>t.length<=i) rfl (λ_ _=>rfl) Oo Os (λi hi t ht=>?_) (λ_=>?_)
 ·rw [Wb] at hi
  have hm:(Q7 r)[i]∈Q7 r:=Wd hi
  have hu:=Zf.1 hm
  have hlt:(Q7 r)[i] < r.used.length:=(Wi.1 hu).1
  have h32r:=hr.v
  have hrl:(Q7 r)[i] < r.refs.length:=by omega
  refine ⟨?_,?_⟩
  ·split
   ·rw [Wn,WE];omega
   ·omega
  ·refine .atN (by rw [Wb];exact hi) ?_
   rw [W5]
   have e1:w64 ((((Q7 r)[i]+1:Nat):Int) - 1)=(((Q7 r)[i]:Nat):Int):=by rw [Qd Oo];omega
   rw [e1]
   refine .atN hrl ?_
   have e2:Qr r (((((Q7 r)[i]+1:Nat):Int)).toNat - 1)=r.refs[(Q7 r)[i]]:=by
    unfold Qr
    rw [Wc,Nat.add_sub_cancel,Wa hrl];rfl
   rw [e2]
   refine .call (QcO hs l hl (hr.w _ (Wd hrl))) ?_
   refine .ite (λh=>.pos (XD (l:=t) Oo Oo) (.some (by rw [if_pos h]))) λh=>.some (by rw [if_neg h])
 ·rw [Qbp (λx:Int=>bP (QaY s l (Qr r (x.toNat - 1)))),UJ,List.filter_map]
  unfold Jj
  refine congrArg _ (UA λa _=>?_)
  show bP (QaY s l (Qr r (((a+1:Nat):Int).toNat - 1)))=_
  rw [Wc,Nat.add_sub_cancel]
theorem posK_lt{l:List Qe}{t:Qe}{j:Nat}(hj:j < l.length)(h:j < J4 l t):Zr l[j] t:=by
 have:=YF (p:=λx=>!bP (Zr x t)) (xs:=l) h
 simpa [ZI] using this
theorem posK_ge{l:List Qe}(hl:Qy l){t:Qe}{j:Nat}(hj:j < l.length)(h:J4 l t<=j):¬ Zr l[j] t:=λk=>by
 have hi:J4 l t < l.length:=by omega
 have h0:¬ Zr l[J4 l t] t:=λk=>by
  have:=U9 (p:=λx=>!bP (Zr x t)) (xs:=l) (w:=hi)
  have e:(!bP (Zr l[J4 l t] t))=true:=this
  rw [Qc3 k] at e
  cases e
 rcases UP h with h1 | h1
 ·exact h0 ((hl.lt h1 hj).trans k)
 ·subst h1;exact h0 k
theorem posI_lt{l:List Int}{t:Int}{j:Nat}(hj:j < l.length)(h:j < Qba l t):l[j] < t:=by
 have:=YF (p:=λx=>!bP (x < t)) (xs:=l) h
 simpa [ZI] using this
theorem posI_ge{l:List Int}(hl:Asc l){t:Int}{j:Nat}(hj:j < l.length)(h:Qba l t<=j):¬ l[j] < t:=λk=>by
 have hi:Qba l t < l.length:=by omega
 have h0:¬ l[Qba l t] < t:=λk=>by
  have:=U9 (p:=λx=>!bP (x < t)) (xs:=l) (w:=hi)
  have e:(!bP (l[Qba l t] < t))=true:=this
  rw [Qc3 k] at e
  cases e
 rcases UP h with h1 | h1
 ·have:=hl.lt h1 hj;omega
 ·subst h1;exact h0 k
theorem Qd7{α:Type}{R:α->α->Prop}{l:List α}(hl:l.Pairwise R){i:Nat}(hi:i<=l.length){x:α}(h1:∀ j (h:j < l.length),j < i->R l[j] x)(h2:∀ j (h:j < l.length),i<=j->R x l[j]):(l.insertIdx i x).Pairwise R:=by
 rw [ins_eq,if_pos hi,WX,WV,List.singleton_append,Vf]
 have hd:∀ y∈l.drop i,R x y:=λy hy=>by
  obtain ⟨j,hj,rfl⟩:=WQ.1 hy
  rw [Ys]
  exact h2 _ (by rw [WY] at hj;omega) Oo
 have ht:∀ y∈l.take i,R y x:=λy hy=>by
  obtain ⟨j,hj,rfl⟩:=WQ.1 hy
  rw [Ws] at hj
  rw [Yt]
  exact h1 _ Oo Oo
 refine ⟨hl.sublist (List.take_sublist _ _),⟨hd,hl.sublist (List.drop_sublist _ _)⟩,λa ha b hb=>?_⟩
 rcases Wv.1 hb with rfl | hb
 ·exact ht a ha
 ·have:=hl
  rw [<- Vi i l,WV] at this
  exact this.2.2 a ha b hb
theorem Qy.pw{l:List Qe}:Qy l<->(∀ x∈l,SetOk x)/\l.Pairwise Zr :=
 ⟨λh=>⟨h.1,Wx.2 λi j hi hj hij=>h.lt hij hj⟩,λh=>⟨h.1,λi hi=>Wx.1 h.2 i (i+1) Oo hi Oo⟩⟩
theorem Asc.pw{l:List Int}:Asc l<->l.Pairwise (· < ·) :=
 ⟨λh=>Wx.2 λi j hi hj hij=>h.lt hij hj,λh i hi=>Wx.1 h i (i+1) Oo hi Oo⟩
theorem withI_ok{l:List Int}(hl:Asc l)(h0:∀ x∈l,0<=x){s:Int}(hs:0<=s):Asc (Qb0 l s)/\0 < (Qb0 l s).length/\(∀ x∈Qb0 l s,0<=x)/\(Qb0 l s).length<=l.length+1:=by
 unfold Qb0
 by_cases h:∃ h:Qba l s < l.length,l[Qba l s]=s
 ·rw [if_pos h]
  obtain ⟨h1,_⟩:=h
  exact ⟨hl,Oo,h0,Oo⟩
 ·rw [if_neg h]
  have hp:=posI_le l s
  refine ⟨Asc.pw.2 (Qd7 (Asc.pw.1 hl) hp (λj hj h1=>posI_lt hj h1) λj hj h1=>?_),by rw [U2,if_pos hp];omega,λx hx=>?_,by rw [U2,if_pos hp];omega⟩
  ·have h2:=posI_ge hl hj h1
   have h3:l[j]≠s:=λe=>by
    rcases UP h1 with h4 | h4
    ·have:=hl.lt h4 hj
     have h5:=posI_ge hl (show Qba l s < l.length by omega) (Wo _)
     omega
    ·exact h ⟨Oo,by simp only [h4];exact e⟩
   omega
  ·rcases (Yl hp).1 hx with rfl | hx
   ·exact hs
   ·exact h0 x hx
theorem slots_pos{x:Qe}(h:SetOk x):∀ y∈x.slots,0<=y:=λy hy=>by
 obtain ⟨i,hi,rfl⟩:=WQ.1 hy
 have h0:=h.2.2.2.1 Oo
 rcases Ue i with rfl | hp
 ·exact h0
 ·have:=h.2.2.2.2.lt hp hi;omega
theorem key_l{a b c:Qe}(h1:a.frm=b.frm)(h2:a.to=b.to)(h:Zr a c):Zr b c:=by unfold Zr at *;omega
theorem key_r{a b c:Qe}(h1:a.frm=b.frm)(h2:a.to=b.to)(h:Zr c a):Zr c b:=by unfold Zr at *;omega
theorem putK_ok{l:List Qe}(hl:Qy l){f t s:Int}(hf:0<=f/\f < 64)(ht:0<=t/\t < 64)(hs:0<=s):Qy (putK l f t s)/\(putK l f t s).length<=l.length+1/\∀ B,(∀ x∈l,x.slots.length<=B)->∀ x∈putK l f t s,x.slots.length<=B+1:=by
 have hp:=Qd9 l ⟨f,t,[]⟩
 unfold putK
 by_cases h:∃ h:J4 l ⟨f,t,[]⟩ < l.length,l[J4 l ⟨f,t,[]⟩].frm=f/\l[J4 l ⟨f,t,[]⟩].to=t
 ·rw [dif_pos h]
  obtain ⟨hi,e1,e2⟩:=h
  have hx:=hl.1 _ (Wd hi)
  obtain ⟨w1,w2,w3,w4⟩:=withI_ok hx.2.2.2.2 (slots_pos hx) hs
  refine ⟨⟨λx hx=>?_,λi hi2=>?_⟩,by rw [Ww];omega,λB hB x hx=>?_⟩
  ·rcases WR hx with hx | rfl
   ·exact hl.1 x hx
   ·exact ⟨hf,ht,w2,λh=>w3 _ (Wd h),w1⟩
  ·rw [Ww] at hi2
   have hk:=hl.2 i hi2
   rw [Uc,Uc]
   by_cases e:J4 l ⟨f,t,[]⟩=i
   ·rw [if_pos e,if_neg Oo]
    exact key_l (a:=l[i]) (by simp only [<- e];exact e1) (by simp only [<- e];exact e2) hk
   ·rw [if_neg e]
    by_cases e':J4 l ⟨f,t,[]⟩=i+1
    ·rw [if_pos e']
     exact key_r (a:=l[i+1]) (by simp only [<- e'];exact e1) (by simp only [<- e'];exact e2) hk
    ·rw [if_neg e']
     exact hk
  ·rcases WR hx with hx | rfl
   ·have:=hB x hx;omega
   ·have:=hB _ (Wd hi);dsimp only;omega
 ·rw [dif_neg h]
  refine ⟨Qy.pw.2 ⟨λx hx=>?_,Qd7 (Qy.pw.1 hl).2 hp (λj hj h1=>?_) λj hj h1=>?_⟩,by rw [U2,if_pos hp];omega,λB hB x hx=>?_⟩
  ·rcases (Yl hp).1 hx with rfl | hx
   ·exact ⟨hf,ht,by show 0 < 1;omega,λ_=>hs,λi h=>by simp at h⟩
   ·exact hl.1 x hx
  ·have:=posK_lt hj h1
   unfold Zr at this ⊢
   exact this
  ·have h2:=posK_ge hl hj h1
   have h3:¬ (l[j].frm=f/\l[j].to=t):=λ⟨e1,e2⟩=>by
    rcases UP h1 with h4 | h4
    ·have h5:=hl.lt h4 hj
     have h6:=posK_ge hl (show J4 l ⟨f,t,[]⟩ < l.length by omega) (Wo _)
     unfold Zr at h5 h6
     dsimp only at h6
     omega
    ·exact h ⟨Oo,by simp only [h4];exact ⟨e1,e2⟩⟩
   unfold Zr at h2 ⊢
   dsimp only at h2 ⊢
   omega
  ·rcases (Yl hp).1 hx with rfl | hx
   ·show 1<=_;omega
   ·have:=hB x hx;omega
theorem mem_insertIdx{α:Type}{l:List α}{i:Nat}(hi:i<=l.length){x y:α}:y∈l.insertIdx i x<->y=x\/y∈l:=by
 rw [ins_eq,if_pos hi]
 have e:l.take i++l.drop i=l:=Vi i l
 constructor
 ·intro h
  rcases Wk.1 h with h | h
  ·rcases Wk.1 h with h | h
   ·exact .inr (Vy h)
   ·exact .inl (Wl.1 h)
  ·exact .inr (List.mem_of_mem_drop h)
 ·rintro (rfl | h)
  ·simp
  ·rw [<- e] at h
   rcases Wk.1 h with h | h
   ·exact We _ (We _ h)
   ·exact Wh _ h
theorem Qbf{l:List Int}{s y:Int}:y∈Qb0 l s<->y=s\/y∈l:=by
 unfold Qb0
 split
 ·rename_i h
  obtain ⟨h,e⟩:=h
  exact ⟨.inr,λk=>by
   rcases k with rfl | k
   ·rw [<- e];exact Wd h
   ·exact k⟩
 ·exact mem_insertIdx (posI_le l s)
def InS(l:List Qe)(f t s:Int):Prop:=∃ x∈l,x.frm=f/\x.to=t/\s∈x.slots
theorem InS_put{l:List Qe}{f t s f' t' s':Int}:InS (putK l f t s) f' t' s'<->(f'=f/\t'=t/\s'=s)\/InS l f' t' s':=by
 unfold putK
 split
 ·rename_i h
  obtain ⟨h,e1,e2⟩:=h
  constructor
  ·rintro ⟨x,hx,k1,k2,k3⟩
   rcases WR hx with hx | rfl
   ·exact .inr ⟨x,hx,k1,k2,k3⟩
   ·dsimp only at k1 k2 k3
    rcases Qbf.1 k3 with k3 | k3
    ·exact .inl ⟨k1.symm,k2.symm,k3⟩
    ·exact .inr ⟨_,Wd h,by rw [e1,k1],by rw [e2,k2],k3⟩
  ·rintro (⟨rfl,rfl,rfl⟩ | ⟨x,hx,k1,k2,k3⟩)
   ·exact ⟨_,List.mem_set h _,rfl,rfl,Qbf.2 (.inl rfl)⟩
   ·obtain ⟨j,hj,rfl⟩:=WQ.1 hx
    by_cases e:j=J4 l ⟨f,t,[]⟩
    ·subst e
     exact ⟨_,List.mem_set h _,e1.symm.trans k1,e2.symm.trans k2,Qbf.2 (.inr k3)⟩
    ·refine ⟨_,?_,k1,k2,k3⟩
     rw [WQ]
     exact ⟨j,by rw [Ww];exact hj,by rw [VG (λh=>e h.symm)]⟩
 ·constructor
  ·rintro ⟨x,hx,k1,k2,k3⟩
   rcases (mem_insertIdx (Qd9 l _)).1 hx with rfl | hx
   ·exact .inl ⟨k1.symm,k2.symm,Wl.1 k3⟩
   ·exact .inr ⟨x,hx,k1,k2,k3⟩
  ·rintro (⟨rfl,rfl,rfl⟩ | ⟨x,hx,k1,k2,k3⟩)
   ·exact ⟨_,(mem_insertIdx (Qd9 l _)).2 (.inl rfl),rfl,rfl,Wl.2 rfl⟩
   ·exact ⟨x,(mem_insertIdx (Qd9 l _)).2 (.inr hx),k1,k2,k3⟩
theorem asc_ext{α:Type}{R:α->α->Prop}(hir:∀ a,¬ R a a)(htr:∀ {a b c},R a b->R b c->R a c):∀ {a b:List α},a.Pairwise R->b.Pairwise R->(∀ x,x∈a<->x∈b)->a=b
 | [],[],_,_,_=>rfl
 | [],y :: b,_,_,h=>by have:=(h y).2 (Wz ..);cases this
 | x :: a,[],_,_,h=>by have:=(h x).1 (Wz ..);cases this
 | x :: a,y :: b,ha,hb,h=>by
  have h1:=Vf.1 ha
  have h2:=Vf.1 hb
  have e:x=y:=by
   rcases Wv.1 ((h x).1 (Wz ..)) with e | e
   ·exact e
   ·rcases Wv.1 ((h y).2 (Wz ..)) with k | k
    ·exact k.symm
    ·exact absurd (htr (h1.1 y k) (h2.1 x e)) (hir x)
  subst e
  rw [asc_ext hir htr h1.2 h2.2 λz=>?_]
  constructor
  ·intro hz
   rcases Wv.1 ((h z).1 (Wm _ hz)) with e | e
   ·subst e;exact absurd (h1.1 z hz) (hir z)
   ·exact e
  ·intro hz
   rcases Wv.1 ((h z).2 (Wm _ hz)) with e | e
   ·subst e;exact absurd (h2.1 z hz) (hir z)
   ·exact e
theorem Asc.ext{a b:List Int}(ha:Asc a)(hb:Asc b)(h:∀ x,x∈a<->x∈b):a=b:=asc_ext (λa=>by omega) (λh k=>by omega) (Asc.pw.1 ha) (Asc.pw.1 hb) h
theorem Qy.uniq{l:List Qe}(h:Qy l){x y:Qe}(hx:x∈l)(hy:y∈l)(h1:x.frm=y.frm)(h2:x.to=y.to):x=y:=by
 obtain ⟨i,hi,rfl⟩:=WQ.1 hx
 obtain ⟨j,hj,rfl⟩:=WQ.1 hy
 rcases Uy i j with k | k | k
 ·rcases h.lt k hj with q | q <;> omega
 ·subst k;rfl
 ·rcases h.lt k hi with q | q <;> omega
theorem Qy.ext{a b:List Qe}(ha:Qy a)(hb:Qy b)(h:∀ f t s,InS a f t s<->InS b f t s):a=b:=by
 have key:∀ {a b:List Qe},Qy a->Qy b->(∀ f t s,InS a f t s<->InS b f t s)->∀ x∈a,x∈b:=by
  intro a b ha hb h x hx
  have hp:=(ha.1 x hx).2.2.1
  obtain ⟨y,hy,e1,e2,e3⟩:=(h x.frm x.to x.slots[0]).1 ⟨x,hx,rfl,rfl,Wd hp⟩
  have e:x.slots=y.slots:=Asc.ext (ha.1 x hx).2.2.2.2 (hb.1 y hy).2.2.2.2 λv=>by
   constructor
   ·intro hv
    obtain ⟨z,hz,k1,k2,k3⟩:=(h x.frm x.to v).1 ⟨x,hx,rfl,rfl,hv⟩
    rw [hb.uniq hz hy Oo Oo] at k3
    exact k3
   ·intro hv
    obtain ⟨z,hz,k1,k2,k3⟩:=(h x.frm x.to v).2 ⟨y,hy,e1,e2,hv⟩
    rw [ha.uniq hz hx Oo Oo] at k3
    exact k3
  have:x=y:=by cases x;cases y;dsimp only at e1 e2 e;subst e1;subst e2;subst e;rfl
  rw [this]
  exact hy
 exact asc_ext (R:=Zr) (λa h=>h.irrefl) (λh k=>h.trans k) (Qy.pw.1 ha).2 (Qy.pw.1 hb).2 λx=>⟨key ha hb h x,key hb ha (λf t s=>(h f t s).symm) x⟩
theorem asc_len{l:List Int}(h:∀ i j (hi:i < l.length) (hj:j < l.length),i < j->l[i] < l[j]){n:Nat}(h0:∀ x∈l,0<=x/\x < n):l.length<=n:=by
 have:=Qcv n (l.map Int.toNat) ?_ ?_
 ·rwa [Wb] at this
 ·rw [W1,Vh]
  refine Wx.2 λa b ha hb hab e=>?_
  have h1:=h a b ha hb hab
  have h2:=h0 _ (Wd ha)
  have h3:=h0 _ (Wd hb)
  omega
 ·intro x hx
  obtain ⟨y,hy,rfl⟩:=Wj.1 hx
  have:=h0 y hy
  omega
theorem Asc.lt'{l:List Int}(h:Asc l):∀ i j (hi:i < l.length) (hj:j < l.length),i < j->l[i] < l[j]:=λi j hi hj hij=>h.lt hij hj
theorem Qy.len{l:List Qe}(h:Qy l):l.length<=4096:=by
 have:=asc_len (l:=l.map λx=>x.frm * 64+x.to) (n:=4096) (λi j hi hj hij=>?_) (λx hx=>?_)
 ·rwa [Wb] at this
 ·rw [Wb] at hi hj
  rw [W5,W5]
  have h1:=h.lt hij hj
  have h2:=(h.1 _ (Wd hi)).rng
  have h3:=(h.1 _ (Wd hj)).rng
  have:=h2.t1;have:=h2.t0;have:=h3.t0;have:=h3.t1
  rcases h1 with h1 | ⟨h1,h4⟩ <;> omega
 ·obtain ⟨y,hy,rfl⟩:=Wj.1 hx
  have h2:=(h.1 y hy).rng
  have:=h2.t1;have:=h2.t0;have:=h2.f0;have:=h2.f1
  omega
def SetsSz(l:List Qe):Prop:=l.length<=100000/\∀ x∈l,x.slots.length<=100000
def Z3(l:List Qe):Prop:=∀ x∈l,∀ y∈x.slots,0<=y/\y < 16384
theorem Qy.slots{l:List Qe}(h:Qy l)(hi:Z3 l):∀ x∈l,x.slots.length<=16384:=λx hx=>asc_len ((h.1 x hx).2.2.2.2.lt') (n:=16384) λy hy=>hi x hx y hy
theorem Qy.sz{l:List Qe}(h:Qy l)(hi:Z3 l):SetsSz l:=⟨by have:=h.len;omega,λx hx=>by have:=h.slots hi x hx;omega⟩
noncomputable def witL(t:List Int)(l:List Int):List Int:=l.foldl Qb0 t
theorem withI_asc{l:List Int}(h:Asc l)(v:Int):Asc (Qb0 l v):=by
 rw [Asc.pw] at h ⊢
 unfold Qb0
 split
 ·exact h
 ·rename_i hn
  have ha:=Asc.pw.2 h
  refine Qd7 h (posI_le l v) (λj hj h1=>posI_lt hj h1) λj hj h1=>?_
  have h2:=posI_ge ha hj h1
  by_cases e:l[j]=v
  ·exfalso
   apply hn
   have hp:Qba l v=j:=by
    rcases Wq (Qba l v) j with h3 | h3
    ·have h4:=posI_ge ha (show Qba l v < l.length by omega) (Wo _)
     have h5:=ha.lt h3 hj
     omega
    ·omega
   exact ⟨Oo,by simp only [hp];exact e⟩
  ·omega
theorem witL_ok:∀ (l t:List Int),Asc t->Asc (witL t l)/\∀ y,y∈witL t l<->y∈t\/y∈l
 | [],t,h=>⟨h,λy=>by simp [witL]⟩
 | v :: l,t,h=>by
  obtain ⟨h1,h2⟩:=witL_ok l (Qb0 t v) (withI_asc h v)
  refine ⟨h1,λy=>(h2 y).trans ?_⟩
  rw [Qbf,Wv]
  constructor
  ·rintro ((k | k) | k)
   ·exact .inr (.inl k)
   ·exact .inl k
   ·exact .inr (.inr k)
  ·rintro (k | k | k)
   ·exact .inl (.inr k)
   ·exact .inl (.inl k)
   ·exact .inr k
def QcX(l:List Qe)(fr:List Int):List Qe:=l.filter λx=>decide (x.to∈fr) && !decide (x.frm∈fr)
noncomputable def intoL(l:List Qe)(fr:List Int):List Int:=(QcX l fr).foldl (λt x=>witL t x.slots) []
def intoN(l:List Qe)(fr:List Int):Int:=(QcX l fr).foldl (λ(n:Int) (x:Qe)=>n+(x.slots.length:Int)) 0
theorem asc_le{l:List Int}(h:Asc l)(hr:∀ y∈l,0<=y/\y < 16384):l.length<=16384:=asc_len h.lt' (n:=16384) hr
theorem into18_c{l:List Qe}(hl:Qy l)(hi:Z3 l)(fr:List Int)(hf:fr.length<=65536):Jy l fr=some (intoL l fr,intoN l fr):=by
 have hlen:=hl.len
 have hsl:=hl.slots hi
 refine Gd.eq ?_
 unfold Jy
 refine Gd.bind (P:=λb=>b=(intoL l fr,intoN l fr)) ?_ λb hb=>.some (by rw [hb])
 refine Gd.for l.length (λ(t:List Int×Int) i=>(t.1,t.2,i)) (λi t=>t=((QcX (l.take i) fr).foldl (λt x=>witL t x.slots) [],(QcX (l.take i) fr).foldl (λ(n:Int) (x:Qe)=>n+(x.slots.length:Int)) 0)/\Asc t.1/\(∀ y∈t.1,0<=y/\y < 16384)/\0<=t.2/\t.2<=16384 * i) ([],0) rfl (λ_ _=>rfl) Oo
  ⟨by simp [QcX],λi h=>absurd h (Vo _),λy hy=>absurd hy (Vr),Oo,Oo⟩ (λi hi' t ht=>?_) (λt ht=>?_)
 ·obtain ⟨h1,h2,h3,h4,h5⟩:=ht
  have hx:=hsl _ (Wd hi')
  have hxr:=hi _ (Wd hi')
  have ef:QcX (l.take (i+1)) fr=if (decide (l[i].to∈fr) && !decide (l[i].frm∈fr))=true then QcX (l.take i) fr++[l[i]] else QcX (l.take i) fr:=by
   unfold QcX
   rw [QF hi',Vj]
   by_cases h:(decide (l[i].to∈fr) && !decide (l[i].frm∈fr))=true
   ·rw [if_pos h];simp [h]
   ·rw [if_neg h];simp [h]
  refine Gd.bind (P:=λb:List Int×Int=>b=if (decide (l[i].to∈fr) && !decide (l[i].frm∈fr))=true then (witL t.1 l[i].slots,t.2+l[i].slots.length) else t) ?_ λb hb=>?_
  ·refine .atN hi' ?_
   refine .call (rin_c _ _ Oo) ?_
   refine .ite (λh=>?_) λh=>.some (by rw [if_neg (by simp [h])])
   refine .call (rin_c _ _ Oo) ?_
   refine .ite (λk=>.some (by rw [if_neg (by simp [k])])) λk=>?_
   rw [if_pos (by rw [h];simp [k])]
   refine Gd.fold l[i].slots (λ(t:List Int) i=>(t,i)) Qb0 t.1 (λ_ t=>Asc t/\∀ y∈t,0<=y/\y < 16384) rfl (λ_ _=>rfl) Oo ⟨h2,h3⟩ (λj hj u hu=>⟨⟨withI_asc hu.1 _,λy hy=>?_⟩,?_⟩) (λhu=>?_)
   ·rcases Qbf.1 hy with rfl | hy
    ·exact hxr _ (Wd hj)
    ·exact hu.2 y hy
   ·refine .atN hj (.call (with_c hu.1 (by have:=asc_le hu.1 hu.2;omega) _) (.some rfl))
   ·dsimp only
    rw [Qd Oo]
    rfl
  ·refine .some (.inl ⟨b,rfl,?_⟩)
   rw [ef]
   by_cases h:(decide (l[i].to∈fr) && !decide (l[i].frm∈fr))=true
   ·rw [if_pos h] at hb ⊢
    have e1:=congrArg Prod.fst h1
    have e2:=congrArg Prod.snd h1
    dsimp only at e1 e2
    rw [hb,Uz,Uz,<- e1,<- e2]
    obtain ⟨w1,w2⟩:=witL_ok l[i].slots t.1 h2
    exact ⟨rfl,w1,λy hy=>((w2 y).1 hy).elim (h3 y) (hxr y),by dsimp only;omega,by dsimp only;omega⟩
   ·rw [if_neg h] at hb ⊢
    rw [hb]
    exact ⟨h1,h2,h3,h4,Oo⟩
 ·obtain ⟨h1,_⟩:=ht
  rw [WH] at h1
  rw [h1]
  rfl
noncomputable def Qbb(s:Sp)(l:List Qe)(c:List Inc):List Int:=(intoL l ((cfr s.fs c).map λ(k:Nat)=>(k:Int))).filter λ(x:Int)=>bP (x < (s.ws.length:Int)/\QaY s c (wAt s x))
theorem cfr_len(fs:List Fe)(c:List Inc):(cfr fs c).length<=fs.length:=by
 have:=WN (isC fs c) (List.range fs.length)
 rw [WM] at this
 exact this
theorem intoS_mem{l:List Qe}{fr:List Int}{x:Qe}:x∈QcX l fr<->x∈l/\x.to∈fr/\¬ x.frm∈fr:=by
 unfold QcX
 rw [WI]
 simp
theorem intoF_ok:∀ (l:List Qe) (t:List Int),Asc t->Asc (l.foldl (λt x=>witL t x.slots) t)/\∀ y,y∈l.foldl (λt x=>witL t x.slots) t<->y∈t\/∃ x∈l,y∈x.slots
 | [],t,h=>⟨h,λy=>by simp⟩
 | x :: l,t,h=>by
  obtain ⟨w1,w2⟩:=witL_ok x.slots t h
  obtain ⟨h1,h2⟩:=intoF_ok l (witL t x.slots) w1
  refine ⟨h1,λy=>(h2 y).trans ?_⟩
  rw [w2]
  constructor
  ·rintro ((k | k) | ⟨z,hz,k⟩)
   ·exact .inl k
   ·exact .inr ⟨x,Wz ..,k⟩
   ·exact .inr ⟨z,Wm _ hz,k⟩
  ·rintro (k | ⟨z,hz,k⟩)
   ·exact .inl (.inl k)
   ·rcases Wv.1 hz with rfl | hz
    ·exact .inl (.inr k)
    ·exact .inr ⟨z,hz,k⟩
theorem Qep(l:List Qe)(fr:List Int):Asc (intoL l fr):=(intoF_ok (QcX l fr) [] λi h=>absurd h (Vo _)).1
theorem Qef{l:List Qe}{fr:List Int}{y:Int}:y∈intoL l fr<->∃ x∈l,x.to∈fr/\¬ x.frm∈fr/\y∈x.slots:=by
 refine ((intoF_ok (QcX l fr) [] λi h=>absurd h (Vo _)).2 y).trans ?_
 constructor
 ·rintro (h | ⟨x,hx,h⟩)
  ·cases h
  ·have:=intoS_mem.1 hx
   exact ⟨x,this.1,this.2.1,this.2.2,h⟩
 ·rintro ⟨x,h1,h2,h3,h4⟩
  exact .inr ⟨x,intoS_mem.2 ⟨h1,h2,h3⟩,h4⟩
theorem intoL_rng{l:List Qe}(hi:Z3 l){fr:List Int}:∀ y∈intoL l fr,0<=y/\y < 16384:=λy hy=>by
 obtain ⟨x,hx,_,_,h⟩:=Qef.1 hy
 exact hi x hx y h
theorem entries22_c{s:Sp}(hs:XA s)(hW:SpW s){l:List Qe}(hl:Qy l)(hi:Z3 l)(c:List Inc)(hc:c.length<=9223372036854775806):Zw s l c=some (Qbb s l c,intoN l ((cfr s.fs c).map λ(k:Nat)=>(k:Int))):=by
 have h64:=hs.shp.hi
 have hwl:=XT hs
 have hfl:=cfr_len s.fs c
 refine Gd.eq ?_
 unfold Zw
 refine .call (frames22_c s c Oo hc) ?_
 refine .call (into18_c hl hi _ (by rw [Wb];omega)) ?_
 have hr:=intoL_rng (l:=l) hi (fr:=(cfr s.fs c).map λ(k:Nat)=>(k:Int))
 have hlen:=asc_le (Qep l ((cfr s.fs c).map λ(k:Nat)=>(k:Int))) hr
 unfold Qbb
 generalize (cfr s.fs c).map (λ(k:Nat)=>(k:Int))=fr at hr hlen ⊢
 dsimp only
 refine Gd.bind (P:=λb=>b=(intoL l fr).filter λ(x:Int)=>bP (x < (s.ws.length:Int)/\QaY s c (wAt s x))) ?_ λb hb=>.some (by rw [hb])
 refine Gd.fold (intoL l fr) (λ(t:List Int) i=>(t,i)) (λt x=>if bP (x < (s.ws.length:Int)/\QaY s c (wAt s x))=true then t++[x] else t) [] (λi t=>t.length<=i) rfl (λ_ _=>rfl) Oo Os (λi hi t ht=>?_) (λ_=>?_)
 ·refine ⟨?_,?_⟩
  ·split
   ·rw [Wn,WE];omega
   ·omega
  ·have hxr:=hr _ (Wd hi)
   refine .atN hi ?_
   refine .ite (λhlt=>?_) λhlt=>.some (by rw [if_neg];rw [ZI];exact λk=>hlt k.1)
   refine .at hxr.1 Oo ?_
   rw [<- wAt_at hxr.1 Oo]
   refine .call (QcO hs c hc (wAt_u hW _)) ?_
   refine .ite (λh=>.pos (XD (l:=t) Oo Oo) (.some (by rw [if_pos];rw [ZI];exact ⟨hlt,ZI.1 h⟩))) λh=>.some (by rw [if_neg];rw [ZI];exact λk=>h (ZI.2 k.2))
 ·exact Qbp _ _ _
def Qc0(l:List Qe)(fr:List Int):List Qe:=l.filter λx=>!decide (x.frm∈fr) && !decide (x.to∈fr)
theorem drop18_c{l:List Qe}(hz:SetsSz l)(fr:List Int)(hf:fr.length<=65536):XL l fr=some (Qc0 l fr):=by
 have hz1:=hz.1
 refine Gd.eq ?_
 unfold XL
 refine Gd.bind (P:=λb=>b=Qc0 l fr) ?_ λb hb=>.some hb
 refine .call (rcopy_c l Oo λx hx=>by have:=hz.2 x hx;omega) ?_
 refine Gd.fold l (λ(t:List Qe) i=>(t,i)) (λt x=>if (!decide (x.frm∈fr) && !decide (x.to∈fr))=true then t++[x] else t) [] (λi t=>t.length<=i) rfl (λ_ _=>rfl) Oo Os (λi hi t ht=>?_) (λ_=>?_)
 ·refine ⟨?_,?_⟩
  ·split
   ·rw [Wn,WE];omega
   ·omega
  ·refine .atN hi ?_
   refine .call (rin_c _ _ Oo) ?_
   refine .ite (λh=>.some (by rw [if_neg (by simp [h])])) λh=>?_
   refine .call (rin_c _ _ Oo) ?_
   refine .ite (λk=>.some (by rw [if_neg (by simp [k])])) λk=>.pos (XD (l:=t) Oo Oo) (.some (by rw [if_pos (by simp [h,k])]))
 ·exact Qbp _ _ _
theorem Qbh{l:List Qe}{fr:List Int}{x:Qe}:x∈Qc0 l fr<->x∈l/\¬ x.frm∈fr/\¬ x.to∈fr:=by
 unfold Qc0
 rw [WI]
 simp
theorem dropS_ok{l:List Qe}(h:Qy l)(fr:List Int):Qy (Qc0 l fr):=by
 rw [Qy.pw] at h ⊢
 exact ⟨λx hx=>h.1 x (Qbh.1 hx).1,h.2.filter _⟩
theorem InS_drop{l:List Qe}{fr:List Int}{f t s:Int}:InS (Qc0 l fr) f t s<->InS l f t s/\¬ f∈fr/\¬ t∈fr:=by
 constructor
 ·rintro ⟨x,hx,rfl,rfl,h⟩
  have:=Qbh.1 hx
  exact ⟨⟨x,this.1,rfl,rfl,h⟩,this.2⟩
 ·rintro ⟨⟨x,hx,rfl,rfl,h⟩,k⟩
  exact ⟨x,Qbh.2 ⟨hx,k⟩,rfl,rfl,h⟩
noncomputable def Qec(s:Sp)(l:List Qe)(p w:Int):List Qe:=open Classical in if Qa8 s p w then putK l (Jf s p) (Jf s (w - 1)) p else l
theorem Qa8.rng{s:Sp}(hs:XA s){p w:Int}(h:Qa8 s p w):(0:Int)<=(Jf s p:Int)/\(Jf s p:Int) < 64/\(0:Int)<=(Jf s (w - 1):Int)/\(Jf s (w - 1):Int) < 64/\0<=p/\p < 16384:=by
 obtain ⟨⟨h1,h2,h3,h4⟩,g1,g2,_⟩:=h
 have:=hs.shp.hi
 have:=XT hs
 omega
theorem noteK_ok{s:Sp}(hs:XA s){l:List Qe}(hl:Qy l)(hi:Z3 l)(p w:Int):Qy (Qec s l p w)/\Z3 (Qec s l p w)/\∀ f t q,InS (Qec s l p w) f t q<->InS l f t q\/(Qa8 s p w/\f=Jf s p/\t=Jf s (w - 1)/\q=p):=by
 unfold Qec
 split
 ·rename_i h
  obtain ⟨r1,r2,r3,r4,r5,r6⟩:=h.rng hs
  refine ⟨(putK_ok hl ⟨r1,r2⟩ ⟨r3,r4⟩ r5).1,λx hx y hy=>?_,λf t q=>?_⟩
  ·rcases InS_put.1 (⟨x,hx,rfl,rfl,hy⟩:InS _ _ _ _) with ⟨_,_,rfl⟩ | ⟨z,hz,_,_,k⟩
   ·omega
   ·exact hi z hz y k
  ·rw [InS_put]
   constructor
   ·rintro (k | k)
    ·exact .inr ⟨h,k⟩
    ·exact .inl k
   ·rintro (k | k)
    ·exact .inr k
    ·exact .inl k.2
 ·rename_i h
  exact ⟨hl,hi,λf t q=>⟨.inl,λk=>k.elim id λk=>absurd k.1 h⟩⟩
theorem note19_c{s:Sp}(hs:XA s){l:List Qe}(hl:Qy l)(hz:SetsSz l){p w:Int}(hw:U64 w):Q3 s l p w=some (Qec s l p w):=by
 refine Gd.eq ?_
 unfold Q3 Qec
 refine .call (rpair_c hs hw) ?_
 by_cases h:¬ w=0/\w<=s.ws.length/\0<=p/\p < s.ws.length
 ·rw [if_pos h]
  dsimp only
  refine .ite (λk=>?_) λk=>?_
  ·rw [if_pos (ZI.1 k)]
   exact .call (put_c hl hz.1 hz.2 _ _ _) (.some rfl)
  ·rw [if_neg λq=>k (Qc3 q)]
   exact .some rfl
 ·rw [if_neg h,if_neg λk=>h k.1]
  exact .neg Os (.some rfl)
noncomputable def Qb4(s:Sp)(l:List Qe)(ps:List Int):List Qe:=ps.foldl (λl p=>Qec s l p (wAt s p)) l
theorem Qcu{s:Sp}(hs:XA s):∀ (ps:List Int) {l:List Qe},Qy l->Z3 l->Qy (Qb4 s l ps)/\Z3 (Qb4 s l ps)/\∀ f t q,InS (Qb4 s l ps) f t q<->InS l f t q\/(q∈ps/\Qa8 s q (wAt s q)/\f=Jf s q/\t=Jf s (wAt s q - 1))
 | [],l,hl,hi=>⟨hl,hi,λf t q=>⟨.inl,λk=>k.elim id λk=>absurd k.1 (Vr)⟩⟩
 | p :: ps,l,hl,hi=>by
  obtain ⟨k1,k2,k3⟩:=noteK_ok hs hl hi p (wAt s p)
  obtain ⟨h1,h2,h3⟩:=Qcu hs ps k1 k2
  refine ⟨h1,h2,λf t q=>(h3 f t q).trans ?_⟩
  rw [k3]
  constructor
  ·rintro ((k | ⟨k4,k5,k6,rfl⟩) | ⟨k,k4⟩)
   ·exact .inl k
   ·exact .inr ⟨Wz ..,k4,k5,k6⟩
   ·exact .inr ⟨Wm _ k,k4⟩
  ·rintro (k | ⟨k,k4,k5,k6⟩)
   ·exact .inl (.inl k)
   ·rcases Wv.1 k with rfl | k
    ·exact .inl (.inr ⟨k4,k5,k6,rfl⟩)
    ·exact .inr ⟨k,k4,k5,k6⟩
noncomputable def movF(s:Sp)(mv:List Mov):List Int:=mv.flatMap λm=>(FldR s m.to).1
noncomputable def renK(s:Sp)(l:List Qe)(c:List Inc)(ps:List Int)(mv:List Mov):List Qe:=Qb4 s (Qb4 s (Qc0 l ((cfr s.fs c).map λ(k:Nat)=>(k:Int))) ps) (movF s mv)
theorem flds_rng{s:Sp}(hs:XA s)(hW:SpW s){a:Int}:(FldR s a).1.length<=15/\∀ p∈(FldR s a).1,0<=p/\p < s.ws.length:=by
 unfold FldR
 split
 ·rename_i h
  obtain ⟨h1,h2⟩:=look_rng hW h
  unfold Qc5 at h1
  refine ⟨by rw [fldL_len];omega,λp hp=>?_⟩
  unfold fldL at hp
  obtain ⟨j,hj,rfl⟩:=Wj.1 hp
  rw [WC] at hj
  exact QeH hs.shp (Z1 hs.fm) (QdY hs.shp (Z1 hs.fm) h2 Oo Oo)
 ·exact ⟨Os,λp hp=>absurd hp (Vr)⟩
theorem note_loop{s:Sp}(hs:XA s)(hW:SpW s){Q:List Qe->Prop}{ps:List Int}(hp:∀ p∈ps,0<=p/\p < s.ws.length)(hn:ps.length<=9223372036854775806){l:List Qe}(hl:Qy l)(hi:Z3 l)(hQ:Q (Qb4 s l ps)) :
  Gd Q (Qi (λ(s6:List Qe×Int) =>
   if s6.2 < (ps.length:Int) then
   ((at_ ps s6.2).bind λv11 =>
   (at_ s.ws v11).bind λv12 =>
   (Q3 s s6.1 v11 v12).bind λv13 =>
   some (LS.go ((v13,w64 (s6.2+1)))))
   else
   some (LS.out (s6.1))) (l,0)):=by
 refine Gd.fold ps (λ(t:List Qe) i=>(t,i)) (λl p=>Qec s l p (wAt s p)) l (λ_ t=>Qy t/\Z3 t) rfl (λ_ _=>rfl) hn ⟨hl,hi⟩ (λi hi t ht=>?_) (λ_=>hQ)
 have hr:=hp _ (Wd hi)
 obtain ⟨k1,k2,_⟩:=noteK_ok hs ht.1 ht.2 ps[i] (wAt s ps[i])
 refine ⟨⟨k1,k2⟩,?_⟩
 refine .atN hi (.at hr.1 Oo ?_)
 rw [<- wAt_at hr.1 Oo]
 exact .call (note19_c hs ht.1 (ht.1.sz ht.2) (wAt_u hW _)) (.some rfl)
theorem foldl_flat{α β γ:Type}(f:α->List β)(g:γ->β->γ):∀ (l:List α) (t:γ),(l.flatMap f).foldl g t=l.foldl (λt a=>(f a).foldl g t) t
 | [],t=>rfl
 | a :: l,t=>by rw [Yu,Uz];exact foldl_flat f g l _
theorem renew24_c{s:Sp}(hs:XA s)(hW:SpW s){l:List Qe}(hl:Qy l)(hi:Z3 l)(c:List Inc)(hc:c.length<=9223372036854775806){ps:List Int}(hp:∀ p∈ps,0<=p/\p < s.ws.length)(hn:ps.length<=9223372036854775806){mv:List Mov}(hm:∀ m∈mv,I64 m.to)(hmn:mv.length<=9223372036854775806) :
  JO s l c ps mv=some (renK s l c ps mv):=by
 have h64:=hs.shp.hi
 have hfl:=cfr_len s.fs c
 refine Gd.eq ?_
 unfold JO renK
 refine .call (frames22_c s c Oo hc) ?_
 refine .call (drop18_c (hl.sz hi) _ (by rw [Wb];omega)) ?_
 have d1:=dropS_ok hl ((cfr s.fs c).map λ(k:Nat)=>(k:Int))
 have d2:Z3 (Qc0 l ((cfr s.fs c).map λ(k:Nat)=>(k:Int))):=λx hx=>hi x (Qbh.1 hx).1
 generalize (cfr s.fs c).map (λ(k:Nat)=>(k:Int))=fr at d1 d2 ⊢
 refine Gd.bind (P:=λb=>b=Qb4 s (Qc0 l fr) ps) (note_loop hs hW hp hn d1 d2 rfl) λb hb=>?_
 obtain ⟨n1,n2,_⟩:=Qcu hs ps d1 d2
 subst hb
 refine Gd.bind (P:=λb=>b=Qb4 s (Qb4 s (Qc0 l fr) ps) (movF s mv)) ?_ λb hb=>.some hb
 unfold movF
 rw [show Qb4 s (Qb4 s (Qc0 l fr) ps) (mv.flatMap λm=>(FldR s m.to).1)=mv.foldl (λt m=>Qb4 s t (FldR s m.to).1) (Qb4 s (Qc0 l fr) ps) from foldl_flat _ _ _ _]
 refine Gd.fold mv (λ(t:List Qe) i=>(t,i)) (λt m=>Qb4 s t (FldR s m.to).1) _ (λ_ t=>Qy t/\Z3 t) rfl (λ_ _=>rfl) hmn ⟨n1,n2⟩ (λi hi t ht=>?_) (λ_=>rfl)
 obtain ⟨f1,f2⟩:=flds_rng hs hW (a:=mv[i].to)
 obtain ⟨k1,k2,_⟩:=Qcu hs (FldR s mv[i].to).1 ht.1 ht.2
 refine ⟨⟨k1,k2⟩,?_⟩
 refine Gd.bind (P:=λb=>b=Qb4 s t (FldR s mv[i].to).1) ?_ λb hb=>.some (by rw [hb])
 refine .atN hi ?_
 refine .call (fields_c hs.shp (Z1 hs.fm) hW (hm _ (Wd hi))) ?_
 exact note_loop hs hW f2 Oo ht.1 ht.2 rfl
abbrev inc0:Inc:=⟨0,0,0,0,0⟩
def BSz(B:List (List Inc)):Prop:=B.length<=64/\∀ q∈B,q.length<=10000
theorem BSz.flat{B:List (List Inc)}(h:BSz B):B.flatten.length<=640000:=by
 have key:∀ (l:List (List Inc)),(∀ q∈l,q.length<=10000)->l.flatten.length<=l.length * 10000:=by
  intro l
  induction l with
  | nil=>intro _;simp
  | cons a l ih =>
   intro h
   have h1:=h a (Wz ..)
   have h2:=ih λq hq=>h q (Wm _ hq)
   rw [Va,Wn,WP]
   omega
 have:=key B h.2
 have:=h.1
 omega
theorem QdV{B:List (List Inc)}(h:BSz B):QS B=some B:=by
 have h1:=h.1
 refine Gd.eq ?_
 unfold QS
 refine Gd.bind (P:=λb=>b=B) ?_ λb hb=>.some hb
 refine Gd.for B.length (λ(t:List (List Inc)) i=>(t,i)) (λi t=>t=B.take i) [] rfl (λ_ _=>rfl) Oo Os (λi hi t ht=>?_) (λt ht=>?_)
 ·have h2:=h.2 _ (Wd hi)
  refine .atN hi (.pos (len_in Oo Oo) ?_)
  have ht2:t.length<=64:=by rw [ht,Ws];omega
  refine .pos (by show ((t.length:Int)+1) * 24<=140737488355328/\(t.length:Int)+1<=9223372036854775807;omega) (.some (.inl ⟨_,rfl,?_⟩))
  rw [QF hi,ht]
 ·rw [WH] at ht
  exact ht
def yngR(B:List (List Inc))(b:Int):Option Inc:=if b < 0 then none else (B[b.toNat]?).bind List.getLast?
def optI:Option Inc->Inc×Bool
 | none=>(inc0,false)
 | some x=>(x,true)
theorem QbF{B:List (List Inc)}(h:BSz B)(b:Int):QI B b=some (optI (yngR B b)):=by
 refine Gd.eq ?_
 unfold QI yngR
 refine .ite (λh1=>.some (by rw [if_pos h1];rfl)) λh1=>?_
 rw [if_neg h1]
 refine .ite (λh2=>.some (by rw [Wf Oo];rfl)) λh2=>?_
 have hb:b.toNat < B.length:=by omega
 have hl:=h.2 _ (Wd hb)
 refine .at Oo hb ?_
 rw [Wa hb,WZ]
 refine .ite (λh3=>.some (by rw [V5 (show B[b.toNat].length=0 by omega)];rfl)) λh3=>?_
 have e1:w64 ((B[b.toNat].length:Int) - 1)=((B[b.toNat].length - 1:Nat):Int):=by rw [Qd Oo];omega
 rw [e1]
 refine .atN Oo (.some ?_)
 rw [List.getLast?_eq_getElem?,Wa Oo]
 rfl
theorem find11_c{B:List (List Inc)}(h:BSz B)(q:Int):XO B q=some (optI (B.flatten.find? λx=>decide (x.seq=q))):=by
 have h1:=h.1
 refine Gd.eq ?_
 unfold XO
 have hno:∀ l:List Inc,(∀ x∈l,¬ x.seq=q)->l.find? (λx=>decide (x.seq=q))=none:=λl hl=>UQ.2 λx hx=>by simpa using hl x hx
 refine Gd.bndR (P:=λz=>(z = .inl ()/\∀ x∈B.flatten,¬ x.seq=q)\/z = .inr (optI (B.flatten.find? λx=>decide (x.seq=q)))) ?_ (λ_ hP=>?_) (λr hP=>?_)
 ·refine Gd.for B.length (λ(_:Unit) i=>i) (λi _=>∀ x∈(B.take i).flatten,¬ x.seq=q) () rfl (λ_ _=>rfl) Oo Os (λi hi t ht=>?_) (λt ht=>?_)
  ·have hl:=h.2 _ (Wd hi)
   have eF:=congrArg List.flatten (show B=B.take i++B[i] :: B.drop (i+1) by rw [<- WO hi,Vi])
   rw [Un,Va] at eF
   refine Gd.bndR (P:=λz=>(z = .inl ()/\∀ x∈B[i],¬ x.seq=q)\/z = .inr (.out (.inr (optI (B.flatten.find? λx=>decide (x.seq=q)))))) ?_ (λ_ hP=>?_) (λr hP=>?_)
   ·refine .atN hi ?_
    refine Gd.find B[i] (λx=>x.seq=q) Oo (λj hj hn=>?_) (λhn=>.inl ⟨rfl,hn⟩)
    refine .atN hj (.ite (λhc=>.some (.inr ⟨hc,_,rfl,.inr ?_⟩)) λhc=>.some (.inl ⟨hc,rfl⟩))
    have e2:B[i].find? (λx=>decide (x.seq=q))=some B[i][j]:=by
     rw [U4]
     exact ⟨by simpa using hc,j,hj,rfl,λk hk=>by simpa using hn k Oo hk⟩
    have e3:B.flatten.find? (λx=>decide (x.seq=q))=some B[i][j]:=by
     rw [eF,List.find?_append,hno _ ht,List.find?_append,e2];rfl
    rw [e3]
    rfl
   ·rcases hP with ⟨_,hP⟩ | hP
    ·refine .some (.inl ⟨(),rfl,λx hx=>?_⟩)
     rw [QF hi,Un] at hx
     rcases Wk.1 hx with hx | hx
     ·exact ht x hx
     ·exact hP x (by simpa using hx)
    ·cases hP
   ·rcases hP with ⟨hP,_⟩ | hP
    ·cases hP
    ·injection hP with hP
     exact .inr ⟨_,hP,.inr rfl⟩
  ·rw [WH] at ht
   exact .inl ⟨rfl,ht⟩
 ·rcases hP with ⟨_,hP⟩ | hP
  ·exact .some (by rw [hno _ hP];rfl)
  ·cases hP
 ·rcases hP with ⟨hP,_⟩ | hP
  ·cases hP
  ·injection hP with hP
theorem all15_c{B:List (List Inc)}(h:BSz B):XB B=some B.flatten:=by
 have h1:=h.1
 refine Gd.eq ?_
 unfold XB
 refine Gd.bind (P:=λb=>b=B.flatten) ?_ λb hb=>.some hb
 refine Gd.for B.length (λ(t:List Inc) i=>(t,i)) (λi t=>t=(B.take i).flatten) [] rfl (λ_ _=>rfl) Oo Os (λi hi t ht=>?_) (λt ht=>?_)
 ·have h2:=h.2 _ (Wd hi)
  have h3:t.length<=640000:=by
   rw [ht]
   exact BSz.flat (B:=B.take i) ⟨by rw [Ws];omega,λq hq=>h.2 q (Vy hq)⟩
  refine .atN hi (.pos (appL_in (l:=t) Oo Oo) (.some (.inl ⟨_,rfl,?_⟩)))
  rw [QF hi,Un,ht]
  simp
 ·rw [WH] at ht
  exact ht
def addB(B:List (List Inc))(i:Inc):List (List Inc):=B.modify i.belt.toNat λq=>q++[i]
theorem QcR{α:Type}{l:List α}{n:Nat}(h:n < l.length)(f:α->α):l.set n (f l[n])=l.modify n f:=by
 apply VV
 intro k
 rw [V6,WW]
 by_cases e:n=k
 ·subst e;simp [h,Wa h]
 ·simp [e]
theorem add11_c{B:List (List Inc)}(h:BSz B){i:Inc}(hb:0<=i.belt/\i.belt < B.length)(hy:∀ y,yngR B i.belt=some y->y.seq < i.seq):Z9 B i=some (addB B i,0):=by
 have hbl:i.belt.toNat < B.length:=by omega
 have hl:=h.2 _ (Wd hbl)
 refine Gd.eq ?_
 unfold Z9
 refine .neg Oo (.neg Oo (.call (QbF h _) ?_))
 have fin:Gd (λx=>x=(addB B i,(0:Int))) ((QS B).bind λv8=>(at_ v8 i.belt).bind λv9 =>
   if ((v9.length:Int)+[i].length) * 40<=140737488355328/\(v9.length:Int)+[i].length<=9223372036854775807 then
   some ((v8.set (Int.toNat i.belt) (v9++[i]),0)) else none):=by
  refine .call (QdV h) (.at hb.1 hbl (.pos (XD Oo Oo) (.some ?_)))
  rw [QcR hbl λq=>q++[i]]
  rfl
 cases hyy:yngR B i.belt with
 | none=>exact .neg (by simp [optI]) fin
 | some y=>exact .pos rfl (.neg (by have:=hy y hyy;show ¬ i.seq<=y.seq;omega) fin)
def repQ(i:Inc)(q:List Inc):List Inc:=q.map λx=>if x.seq=i.seq then i else x
theorem rep_at{q:List Inc}{i:Inc}(hd:q.Pairwise λx y=>x.seq≠y.seq){k:Nat}(hk:k < q.length)(h:q[k].seq=i.seq):q.set k i=repQ i q:=by
 unfold repQ
 apply VF
 ·rw [Ww,Wb]
 ·intro j h1 h2
  rw [W5]
  rw [Ww] at h1
  by_cases e:k=j
  ·subst e;rw [Ux,if_pos h]
  ·rw [VG e,if_neg]
   intro hc
   rcases UM e with h3 | h3
   ·exact Wx.1 hd k j hk h1 h3 (h.trans hc.symm)
   ·exact Wx.1 hd j k h1 hk h3 (hc.trans h.symm)
def repB(B:List (List Inc))(i:Inc):List (List Inc):=B.modify i.belt.toNat (repQ i)
theorem Qd5{B:List (List Inc)}(h:BSz B){i:Inc}(hb:0<=i.belt)(hbl:i.belt.toNat < B.length)(hd:B[i.belt.toNat].Pairwise λx y=>x.seq≠y.seq)(hm:∃ x∈B[i.belt.toNat],x.seq=i.seq):QR B i=some (repB B i,0):=by
 have hl:=h.2 _ (Wd hbl)
 refine Gd.eq ?_
 unfold QR
 refine .neg Oo (.neg Oo (.call (QdV h) ?_))
 refine Gd.bndR (P:=λz=>z = .inr (repB B i,0)) ?_ (λ_ hP=>by cases hP) (λr hP=>by injection hP)
 refine .at hb hbl ?_
 refine Gd.find B[i.belt.toNat] (λx=>x.seq=i.seq) Oo (λj hj hn=>?_) (λhn=>?_)
 ·refine .atN hj (.ite (λhc=>.some (.inr ⟨hc,_,rfl,?_⟩)) λhc=>.some (.inl ⟨hc,rfl⟩))
  rw [Wc,rep_at hd hj hc,QcR hbl (repQ i)]
  rfl
 ·obtain ⟨x,hx,e⟩:=hm
  exact absurd e (hn x hx)
def remB(B:List (List Inc))(q:Int):List (List Inc):=B.map λl=>l.filter λx=>!decide (x.seq=q)
theorem rem_at{q:List Inc}{n:Int}(hd:q.Pairwise λx y=>x.seq≠y.seq){k:Nat}(hk:k < q.length)(h:q[k].seq=n):q.take k++q.drop (k+1)=q.filter λx=>!decide (x.seq=n):=by
 have e:q=q.take k++q[k] :: q.drop (k+1):=by rw [<- WO hk,Vi]
 have h1:∀ x∈q.take k,¬ x.seq=n:=λx hx hc=>by
  obtain ⟨j,hj,rfl⟩:=WQ.1 hx
  rw [Ws] at hj
  rw [Yt] at hc
  exact Wx.1 hd j k Oo hk Oo (hc.trans h.symm)
 have h2:∀ x∈q.drop (k+1),¬ x.seq=n:=λx hx hc=>by
  obtain ⟨j,hj,rfl⟩:=WQ.1 hx
  rw [WY] at hj
  rw [Ys] at hc
  exact Wx.1 hd k (k+1+j) hk Oo Oo (h.trans hc.symm)
 have e2:=congrArg (List.filter λx:Inc=>!decide (x.seq=n)) e
 have e3:(q.take k).filter (λx:Inc=>!decide (x.seq=n))=q.take k:=VM.2 λx hx=>by simpa using h1 x hx
 have e4:(q.drop (k+1)).filter (λx:Inc=>!decide (x.seq=n))=q.drop (k+1):=VM.2 λx hx=>by simpa using h2 x hx
 rw [Vj,W4,e3,e4,if_neg (by simp [h])] at e2
 exact e2.symm
theorem remove11_c{B:List (List Inc)}(h:BSz B)(q:Int)(hd:B.flatten.Pairwise λx y=>x.seq≠y.seq)(hm:∃ x∈B.flatten,x.seq=q):Zq B q=some (remB B q,0):=by
 have h1:=h.1
 refine Gd.eq ?_
 unfold Zq
 refine .call (QdV h) ?_
 refine Gd.bndR (P:=λz=>z = .inr (remB B q,0)) ?_ (λ_ hP=>by cases hP) (λr hP=>by injection hP)
 refine Gd.for B.length (λ(_:Unit) i=>i) (λi _=>∀ x∈(B.take i).flatten,¬ x.seq=q) () rfl (λ_ _=>rfl) Oo Os (λi hi t ht=>?_) (λt ht=>?_)
 ·have hl:=h.2 _ (Wd hi)
  have eB:B=B.take i++B[i] :: B.drop (i+1):=by rw [<- WO hi,Vi]
  have eF:=congrArg List.flatten eB
  rw [Un,Va] at eF
  rw [eF] at hd
  obtain ⟨_,p2,p3⟩:=WV.1 hd
  obtain ⟨p4,_,p5⟩:=WV.1 p2
  refine Gd.bndR (P:=λz=>(z = .inl ()/\∀ x∈B[i],¬ x.seq=q)\/z = .inr (.out (.inr (remB B q,0)))) ?_ (λ_ hP=>?_) (λr hP=>?_)
  ·refine .atN hi ?_
   refine Gd.find B[i] (λx=>x.seq=q) Oo (λj hj hn=>?_) (λhn=>.inl ⟨rfl,hn⟩)
   refine .atN hj (.ite (λhc=>?_) λhc=>.some (.inl ⟨hc,rfl⟩))
   have e1:w64 ((j:Int)+1)=((j+1:Nat):Int):=Qd Oo
   rw [e1]
   refine .pos Oo (.pos Oo (.pos Oo (.pos (len_in Oo Oo) (.some (.inr ⟨hc,_,rfl,.inr ?_⟩)))))
   rw [Wc,Wc,Wc,Wc,WH,rem_at p4 hj hc]
   refine congrArg (λz=>Sum.inr (LS.out (Sum.inr (z,(0:Int))))) ?_
   have hfx:∀ l∈B.take i,l.filter (λx=>!decide (x.seq=q))=l:=λl hlm=>VM.2 λx hx=>by simpa using ht x (Vc.2 ⟨l,hlm,hx⟩)
   have hfy:∀ l∈B.drop (i+1),l.filter (λx=>!decide (x.seq=q))=l:=λl hlm=>VM.2 λx hx=>by
    have:=p5 _ (Wd hj) x (Vc.2 ⟨l,hlm,hx⟩)
    simp only [Vn,decide_eq_false_iff_not]
    exact λk=>this (hc.trans k.symm)
   unfold remB
   rw [QcR hi λl=>l.filter λx=>!decide (x.seq=q)]
   apply VV
   intro k
   rw [WW,Wg]
   by_cases e:i=k
   ·subst e;simp
   ·cases hk:B[k]? with
    | none=>rfl
    | some l =>
     obtain ⟨hk1,hk2⟩:=Wi.1 hk
     have:l.filter (λx=>!decide (x.seq=q))=l:=by
      rcases UM e with h3 | h3
      ·refine hfy l ?_
       rw [W6]
       exact ⟨k - (i+1),by rw [Ve,show i+1+(k - (i+1))=k by omega,hk]⟩
      ·refine hfx l ?_
       rw [W6]
       exact ⟨k,by rw [W2,if_pos Oo,hk]⟩
     simp [this,e]
  ·rcases hP with ⟨_,hP⟩ | hP
   ·refine .some (.inl ⟨(),rfl,λx hx=>?_⟩)
    rw [QF hi,Un] at hx
    rcases Wk.1 hx with hx | hx
    ·exact ht x hx
    ·exact hP x (by simpa using hx)
   ·cases hP
  ·rcases hP with ⟨hP,_⟩ | hP
   ·cases hP
   ·injection hP with hP
    exact .inr ⟨_,hP,rfl⟩
 ·rw [WH] at ht
  obtain ⟨x,hx,e⟩:=hm
  exact absurd e (ht x hx)
theorem XA.nofree{s:Sp}(hs:XA s){f k:Nat}(hf:f < s.fs.length)(h0:s.fs[f].ow = -1)(hk:k < s.fs.length):¬ s.fs[k].nx=(f:Int):=λe=>by
 rcases hs.fm k hk with h | h
 ·have:=h.2.2.1;omega
 ·obtain ⟨h1,h2⟩:=h.2.2.2.2 f hf e
  have:=h.1.1
  omega
theorem QbK{fs:List Fe}{n x:Nat}(hx:x < fs.length):itF fs (n+1) (x:Int)=itF fs n fs[x].nx:=by
 show itF fs n (nxF fs x)=_
 rw [nxF_at hx]
theorem sp_link{s:Sp}(hs:XA s){f:Nat}(hf:f < s.fs.length)(h0:s.fs[f].ow = -1){q st:Int}(hst:Stp q st)(lo:Option Nat)
  (hlo:∀ l,lo=some l->∃ h:l < s.fs.length,s.fs[l].nx = -1/\s.fs[l].ow=q/\s.fs[l].st=st){fs':List Fe}(hlen:fs'.length=s.fs.length)(hp1:∀ h:f < fs'.length,fs'[f]=⟨q,st,-1⟩)
  (hp:∀ k (h:k < s.fs.length) (h':k < fs'.length),k≠f->fs'[k].ow=s.fs[k].ow/\fs'[k].st=s.fs[k].st/\fs'[k].nx=if lo=some k then (f:Int) else s.fs[k].nx):XA ⟨s.sh,s.ws,fs'⟩:=by
 have hf':f < fs'.length:=by omega
 have nf:=λk hk=>hs.nofree hf h0 (k:=k) hk
 have hz:∀ i,ZeroF s i->ZeroF ⟨s.sh,s.ws,fs'⟩ i:=λi h=>h
 have hq:0<=q:=hst.1
 have hnx:NxIn s.fs:=Z1 hs.fm
 refine ⟨⟨hs.shp.sh,by show 2<=fs'.length;rw [hlen];exact hs.shp.lo,by show fs'.length<=64;rw [hlen];exact hs.shp.hi,by show s.ws.length=fs'.length * _;rw [hlen];exact hs.shp.wl⟩,λi hi=>?_,λi j hi hj hij hjn e=>?_,λi hi=>?_⟩
 ·by_cases hif:i=f
  ·subst hif
   refine .inr ?_
   show UsedF _ _ fs'[i]
   rw [hp1 hf']
   exact ⟨hst,by show (-1:Int)<=-1;omega,by show (-1:Int) < fs'.length;omega,by show (-1:Int)≠i;omega,λj hj e=>by have:(-1:Int)=j:=e;omega⟩
  ·have hi2:i < s.fs.length:=by have:i < fs'.length:=hi;omega
   obtain ⟨p1,p2,p3⟩:=hp i hi2 hi hif
   rcases hs.fm i hi2 with h | h
   ·have hl:¬ lo=some i:=λe=>by obtain ⟨_,_,h2,_⟩:=hlo i e;have:=h.1;omega
    rw [if_neg hl] at p3
    exact .inl ⟨p1.trans h.1,p2.trans h.2.1,p3.trans h.2.2.1,hz i h.2.2.2⟩
   ·refine .inr ⟨by rw [p1,p2];exact h.1,?_⟩
    by_cases hl:lo=some i
    ·rw [if_pos hl] at p3
     obtain ⟨_,g1,g2,g3⟩:=hlo i hl
     refine ⟨by rw [p3];omega,by rw [p3];show (f:Int) < fs'.length;omega,by rw [p3];omega,λj hj e=>?_⟩
     rw [p3] at e
     have:j=f:=by omega
     subst this
     show fs'[j].ow=_/\fs'[j].st=_
     rw [hp1 hf',p1,p2]
     exact ⟨g2.symm,g3.symm⟩
    ·rw [if_neg hl] at p3
     obtain ⟨u1,u2,u3,u4,u5⟩:=h
     refine ⟨by rw [p3];exact u2,by rw [p3];show _ < (fs'.length:Int);omega,by rw [p3];exact u4,λj hj e=>?_⟩
     rw [p3] at e
     have hj2:j < s.fs.length:=by have:j < fs'.length:=hj;omega
     have hjf:j≠f:=λe'=>by subst e';exact nf i hi2 e
     obtain ⟨r1,r2,_⟩:=hp j hj2 hj hjf
     obtain ⟨v1,v2⟩:=u5 j hj2 e
     show fs'[j].ow=_/\fs'[j].st=_
     rw [r1,r2,p1,p2]
     exact ⟨v1,v2⟩
 ·show fs'[i].nx = -1
  have e:fs'[i].nx=fs'[j].nx:=e
  have hi2:i < s.fs.length:=by have:i < fs'.length:=hi;omega
  have hj2:j < s.fs.length:=by have:j < fs'.length:=hj;omega
  by_cases hif:i=f
  ·subst hif;rw [hp1 hf']
  by_cases hjf:j=f
  ·subst hjf;rw [e,hp1 hf']
  obtain ⟨_,_,p3⟩:=hp i hi2 hi hif
  obtain ⟨_,_,r3⟩:=hp j hj2 hj hjf
  by_cases hl:lo=some i
  ·rw [if_pos hl] at p3
   have:¬ lo=some j:=λe'=>by rw [hl] at e';injection e' with e';omega
   rw [if_neg this] at r3
   exact absurd (r3.symm.trans (e.symm.trans p3)) (nf j hj2)
  ·rw [if_neg hl] at p3
   by_cases hl2:lo=some j
   ·rw [if_pos hl2] at r3
    exact absurd (p3.symm.trans (e.trans r3)) (nf i hi2)
   ·rw [if_neg hl2] at r3
    rw [p3]
    exact hs.uq i j hi2 hj2 hij hj2 (p3.symm.trans (e.trans r3))
 ·have hfe:∀ n,itF fs' (n+1) (f:Int) = -1:=λn=>by
   rw [QbK hf',hp1 hf']
   exact JD n rfl
  have key:∀ n x,(x = -1\/∃ k:Nat,x=(k:Int)/\k < s.fs.length/\k≠f)->itF s.fs n x = -1->itF fs' (n+1) x = -1:=by
   intro n
   induction n with
   | zero =>
    intro x _ h
    exact JD 1 h
   | succ n ih =>
    intro x hx h
    rcases hx with hx | ⟨k,rfl,hk,hkf⟩
    ·exact JD _ hx
    ·have hk':k < fs'.length:=by omega
     obtain ⟨_,_,p3⟩:=hp k hk hk' hkf
     rw [QbK hk] at h
     rw [QbK hk',p3]
     by_cases hl:lo=some k
     ·rw [if_pos hl];exact hfe n
     ·rw [if_neg hl]
      refine ih _ ?_ h
      have hr:=hnx k hk
      by_cases hm:s.fs[k].nx = -1
      ·exact .inl hm
      ·refine .inr ⟨s.fs[k].nx.toNat,Oo,Oo,λe=>nf k hk Oo⟩
  show itF fs' (fs'.length+1) i = -1
  rw [hlen]
  have hi2:i < s.fs.length:=by have:i < fs'.length:=hi;omega
  by_cases hif:i=f
  ·subst hif;exact hfe _
  ·exact key _ _ (.inr ⟨i,rfl,hi2,hif⟩) (end_len hs hi2)
def Chn(fs:List Fe):List Nat->Prop
 | []=>True
 | f :: l=>∃ h:f < fs.length,fs[f].nx=(match l with | []=>-1 | g :: _=>(g:Int))/\Chn fs l
theorem Chn.lt{fs:List Fe}:∀ {l:List Nat},Chn fs l->∀ k∈l,k < fs.length
 | [],_,k,hk=>by cases hk
 | f :: l,h,k,hk=>by
  obtain ⟨h1,_,h3⟩:=h
  rcases Wv.1 hk with rfl | hk
  ·exact h1
  ·exact h3.lt k hk
theorem Chn.it{fs:List Fe}:∀ {l:List Nat} {f:Nat},Chn fs (f :: l)->∀ j,itF fs j (f:Int)=match (f :: l)[j]? with | some k=>(k:Int) | none=>-1
 | l,f,_,0=>rfl
 | [],f,h,j+1=>by
  obtain ⟨h1,h2,_⟩:=h
  rw [QbK h1,h2]
  simp only [VR,List.getElem?_nil]
  exact JD j rfl
 | g :: l,f,h,j+1=>by
  obtain ⟨h1,h2,h3⟩:=h
  rw [QbK h1,h2]
  show itF fs j (g:Int)=_
  rw [h3.it j,VR]
theorem Chn.congr{fs fs':List Fe}(hlen:fs'.length=fs.length):∀ {l:List Nat},Chn fs l->(∀ k∈l,∀ (h:k < fs.length) (h':k < fs'.length),fs'[k].nx=fs[k].nx)->Chn fs' l
 | [],_,_=>trivial
 | f :: l,h,hk=>by
  obtain ⟨h1,h2,h3⟩:=h
  refine ⟨Oo,?_,h3.congr hlen λk hkl=>hk k (Wm _ hkl)⟩
  rw [hk f Os h1 Oo]
  exact h2
theorem Chn.snoc{fs fs':List Fe}{f:Nat}(hlen:fs'.length=fs.length)(hf:f < fs.length)(hff:∀ h:f < fs'.length,fs'[f].nx = -1):∀ {l:List Nat},Chn fs l->l.Nodup->f∉l ->
  (∀ k∈l,∀ (h:k < fs.length) (h':k < fs'.length),fs'[k].nx=if l.getLast?=some k then (f:Int) else fs[k].nx)->Chn fs' (l++[f])
 | [],_,_,_,_=>⟨Oo,hff _,trivial⟩
 | g :: l,h,hn,hfl,hk=>by
  obtain ⟨h1,h2,h3⟩:=h
  have hn2:=Uv.1 hn
  have hx:=hk g Os h1 Oo
  refine ⟨Oo,?_,h3.snoc hlen hf hff hn2.2 (λh=>hfl (Wm _ h)) λk hkl a b=>?_⟩
  ·rw [hx]
   cases l with
   | nil=>rw [if_pos Os];rfl
   | cons g' l =>
    have:¬ (g :: g' :: l).getLast?=some g:=λe=>by
     rw [UU] at e
     exact hn2.1 (VT e)
    rw [if_neg this,h2]
    rfl
  ·rw [hk k (Wm _ hkl) a b]
   cases l with
   | nil=>cases hkl
   | cons g' l=>rw [UU]
theorem Chn.last{fs:List Fe}:∀ {l:List Nat},Chn fs l->∀ k,l.getLast?=some k->∃ h:k < fs.length,fs[k].nx = -1
 | [],_,k,e=>by cases e
 | [f],h,k,e=>by
  obtain ⟨h1,h2,_⟩:=h
  simp only [List.getLast?_singleton,Wt] at e
  subst e
  exact ⟨h1,h2⟩
 | f :: g :: l,h,k,e=>by
  obtain ⟨_,_,h3⟩:=h
  rw [UU] at e
  exact h3.last k e
def isFr(fs:List Fe)(k:Nat):Bool:=match fs[k]? with | some f=>decide (f.ow = -1) | none=>false
theorem QaM{fs:List Fe}{k:Nat}(h:k < fs.length):isFr fs k=decide (fs[k].ow = -1):=by unfold isFr;rw [Wa h]
theorem isFr_lt{fs:List Fe}{k:Nat}(h:isFr fs k=true):∃ h':k < fs.length,fs[k].ow = -1:=by
 rcases Wq k fs.length with h' | h'
 ·rw [QaM h'] at h
  exact ⟨h',of_decide_eq_true h⟩
 ·unfold isFr at h;rw [Wf h'] at h;cases h
def Qj(fs:List Fe):List Nat:=(List.range fs.length).filter (isFr fs)
def Qde(fs:List Fe)(k:Nat):List Int:=((List.range k).filter (isFr fs)).map λ(k:Nat)=>(k:Int)
theorem Qew(fs:List Fe)(k:Nat):Qde fs (k+1)=if isFr fs k=true then Qde fs k++[(k:Int)] else Qde fs k:=by
 unfold Qde
 rw [VX,Vj,WF]
 by_cases h:isFr fs k=true
 ·rw [if_pos h];simp [h]
 ·rw [if_neg h];simp [h]
theorem freeTo_len(fs:List Fe)(k:Nat):(Qde fs k).length<=k:=by
 unfold Qde
 rw [Wb]
 exact Ur (WN _ _) Os
theorem free_ok(s:Sp)(h:s.fs.length<=65536):Zl s=some ((Qj s.fs).map λ(k:Nat)=>(k:Int)):=by
 unfold Zl
 refine Qce (a:=Qde s.fs s.fs.length) ?_ rfl
 refine QdM (λk=>(Qde s.fs k,(k:Int))) s.fs.length (λj hj=>?_) ?_
 ·dsimp only
  rw [if_pos Oo,at_nat hj]
  simp only [WZ]
  have hl:=freeTo_len s.fs j
  have e1:w64 ((j:Int)+1)=((j+1:Nat):Int):=Qd Oo
  by_cases hf:s.fs[j].ow = -1
  ·rw [if_pos hf,if_pos (by simp only [WP,VL];omega),Qew,if_pos (by rw [QaM hj];exact decide_eq_true hf),e1]
  ·rw [if_neg hf,Qew,if_neg (by rw [QaM hj];simpa using hf),e1]
 ·dsimp only
  rw [if_neg Oo]
def frF(fs:List Fe):Option Nat:=(Qj fs).head?
theorem filter_range{p:Nat->Bool}{n f:Nat}(hf:f < n)(hp:p f=true)(hm:∀ k,k < f->p k=false):((List.range n).filter p).head?=some f:=by
 obtain ⟨d,rfl⟩:∃ d,n=f+(d+1):=⟨n - f - 1,Oo⟩
 rw [List.range_add,Vj]
 have h0:(List.range f).filter p=[]:=Ut.2 λk hk=>by rw [hm k (WC.1 hk)];simp
 rw [h0,UJ,List.range_succ_eq_map,W3,VI,List.filter_cons_of_pos hp]
 rfl
theorem QdR{fs:List Fe}{f:Nat}(h:frF fs=some f):∃ h':f < fs.length,fs[f].ow = -1:=by
 unfold frF Qj at h
 have:=WI.1 (List.mem_of_head? h)
 exact isFr_lt this.2
theorem frF_first{fs:List Fe}{f:Nat}(h:frF fs=some f):∀ k (hk:k < fs.length),k < f->¬ fs[k].ow = -1:=λk hk hkf e=>by
 obtain ⟨g,hg,hm⟩:=least_nat (p:=λj=>isFr fs j=true) k (by rw [QaM hk];exact decide_eq_true e)
 have hgl:=(isFr_lt hg).1
 have:=filter_range (p:=isFr fs) (n:=fs.length) hgl hg λj hj=>by
  cases hx:isFr fs j with
  | false=>rfl
  | true=>have:=hm j hx;omega
 have h2:frF fs=some g:=this
 rw [h2] at h
 injection h with h
 have:=hm k (by rw [QaM hk];exact decide_eq_true e)
 omega
theorem frF_of{fs:List Fe}(h:Qj fs≠[]):∃ f,frF fs=some f:=by
 unfold frF
 cases hx:Qj fs with
 | nil=>exact absurd hx h
 | cons f l=>exact ⟨f,rfl⟩
theorem lift_spec(s:Sp)(q b:Int){f:Nat}(hf:frF s.fs=some f)(hl:s.fs.length<=65536)(hq:0<=q/\q<=4294967295)(hb:0<=b/\b < 4):XQ s q b=some ((f:Int),s.fs.set f ⟨q,b * 4294967296+q,-1⟩):=by
 obtain ⟨h1,h2⟩:=QdR hf
 have h3:=frF_first hf
 unfold XQ
 refine bndR_eqR ?_
 refine QdM (λk=>(k:Int)) f (λj hj=>?_) ?_
 ·rw [if_pos Oo,at_nat (show j < s.fs.length by omega)]
  simp only [WZ]
  rw [if_neg (h3 j Oo hj),show w64 ((j:Int)+1)=((j+1:Nat):Int) from Qd Oo]
 ·rw [if_pos Oo,at_nat h1]
  simp only [WZ]
  rw [if_pos h2,Qd (n:=b * 4294967296) Oo,Qd (n:=b * 4294967296+q) Oo,Wc]
structure IncC(fs:List Fe)(i:Inc)(fr:List Nat):Prop where
 sq:0<=i.seq/\i.seq<=4294967295
 bl:0<=i.belt/\i.belt < 4
 ch:Chn fs fr
 nd:fr.Nodup
 ow:∀ k (h:k < fs.length),fs[k].ow=i.seq<->k∈fr
 st:∀ k (h:k < fs.length),k∈fr->fs[k].st=i.belt * 4294967296+i.seq
 first:i.first=match fr.head? with | none=>-1 | some f=>(f:Int)
 last:i.last=match fr.getLast? with | none=>-1 | some f=>(f:Int)
def lnk(fs:List Fe)(i:Inc)(f:Nat):List Fe×Inc :=
 let fs1:=fs.set f ⟨i.seq,i.belt * 4294967296+i.seq,-1⟩
 if i.first = -1 then (fs1,⟨i.seq,i.belt,f,f,i.words⟩)
 else (match fs1[i.last.toNat]? with | some g=>fs1.set i.last.toNat ⟨g.ow,g.st,f⟩ | none=>fs1,⟨i.seq,i.belt,i.first,f,i.words⟩)
theorem lnk_len(fs:List Fe)(i:Inc)(f:Nat):(lnk fs i f).1.length=fs.length:=by
 unfold lnk
 dsimp only
 split
 ·simp
 ·split <;> simp
theorem lnk_at{s:Sp}(hs:XA s){i:Inc}{fr:List Nat}(hc:IncC s.fs i fr){f:Nat}(hf:f < s.fs.length)(h0:s.fs[f].ow = -1) :
  (∀ h:f < (lnk s.fs i f).1.length,(lnk s.fs i f).1[f]=⟨i.seq,i.belt * 4294967296+i.seq,-1⟩) /\
  ∀ k (h:k < s.fs.length) (h':k < (lnk s.fs i f).1.length),k≠f->(lnk s.fs i f).1[k].ow=s.fs[k].ow/\(lnk s.fs i f).1[k].st=s.fs[k].st/\(lnk s.fs i f).1[k].nx=if fr.getLast?=some k then (f:Int) else s.fs[k].nx:=by
 have hfr:f∉fr:=λh=>by have:=(hc.ow f hf).2 h;have:=hc.sq.1;omega
 cases hg:fr.getLast? with
 | none =>
  have hn:fr=[]:=Yn.1 hg
  have h1:i.first = -1:=by rw [hc.first,hn];rfl
  unfold lnk
  simp only [h1,if_true]
  refine ⟨λh=>by simp,λk h h' hk=>?_⟩
  rw [VG (λe=>hk e.symm)]
  exact ⟨rfl,rfl,Os⟩
 | some l =>
  have hlm:l∈fr:=VT hg
  have hll:=hc.ch.lt l hlm
  have hlf:l≠f:=λe=>hfr (e▸hlm)
  have hla:i.last=(l:Int):=by rw [hc.last,hg]
  have h1:¬ i.first = -1:=by
   rw [hc.first]
   cases hh:fr.head? with
   | none=>rw [YG] at hh;rw [hh] at hg;cases hg
   | some x=>dsimp only;omega
  have ht:i.last.toNat=l:=by rw [hla];rfl
  have hv:(lnk s.fs i f).1=(s.fs.set f ⟨i.seq,i.belt * 4294967296+i.seq,-1⟩).set l ⟨s.fs[l].ow,s.fs[l].st,f⟩:=by
   unfold lnk
   dsimp only
   rw [if_neg h1,ht]
   dsimp only
   rw [WA (λe=>hlf e.symm),Wa hll]
  simp only [hv]
  refine ⟨λh=>by rw [VG hlf];simp,λk h h' hk=>?_⟩
  by_cases hkl:l=k
  ·subst hkl
   simp
  ·have:¬ some l=some k:=λe=>hkl (by injection e)
   rw [VG hkl,VG (λe=>hk e.symm),if_neg this]
   exact ⟨rfl,rfl,rfl⟩
theorem stp_of{i:Inc}(h1:0<=i.seq/\i.seq<=4294967295)(h2:0<=i.belt/\i.belt < 4):Stp i.seq (i.belt * 4294967296+i.seq):=⟨h1.1,h1.2,i.belt,h2.1,h2.2,Oo⟩
theorem lnk_ok{s:Sp}(hs:XA s){i:Inc}{fr:List Nat}(hc:IncC s.fs i fr){f:Nat}(hf:f < s.fs.length)(h0:s.fs[f].ow = -1) :
  XA ⟨s.sh,s.ws,(lnk s.fs i f).1⟩/\IncC (lnk s.fs i f).1 (lnk s.fs i f).2 (fr++[f]):=by
 obtain ⟨p1,p2⟩:=lnk_at hs hc hf h0
 have hlen:=lnk_len s.fs i f
 have hfr:f∉fr:=λh=>by have:=(hc.ow f hf).2 h;have:=hc.sq.1;omega
 have hq:=hc.sq.1
 have e2:(lnk s.fs i f).2.seq=i.seq/\(lnk s.fs i f).2.belt=i.belt/\(lnk s.fs i f).2.last=f/\(lnk s.fs i f).2.first=if i.first = -1 then (f:Int) else i.first:=by
  unfold lnk
  dsimp only
  split <;> exact ⟨rfl,rfl,rfl,rfl⟩
 obtain ⟨e3,e4,e5,e6⟩:=e2
 refine ⟨sp_link hs hf h0 (stp_of hc.sq hc.bl) fr.getLast? (λl hl=>?_) hlen p1 p2,?_⟩
 ·obtain ⟨g1,g2⟩:=hc.ch.last l hl
  have hm:=VT hl
  exact ⟨g1,g2,(hc.ow l g1).2 hm,hc.st l g1 hm⟩
 ·refine ⟨by rw [e3];exact hc.sq,by rw [e4];exact hc.bl,?_,?_,λk hk=>?_,λk hk hkm=>?_,?_,?_⟩
  ·exact hc.ch.snoc hlen hf (λh=>by rw [p1 h]) hc.nd hfr λk hk a b=>(p2 k a b (λe=>hfr (e▸hk))).2.2
  ·rw [V7]
   exact ⟨hc.nd,Os,λa ha b hb=>by rw [Wl] at hb;subst hb;exact λe=>hfr (e▸ha)⟩
  ·rw [e3,Wk,Wl]
   by_cases hkf:k=f
   ·subst hkf
    rw [p1 hk]
    simp
   ·rw [(p2 k Oo hk hkf).1,hc.ow k Oo]
    simp [hkf]
  ·rw [e3,e4]
   by_cases hkf:k=f
   ·subst hkf
    rw [p1 hk]
   ·rw [(p2 k Oo hk hkf).2.1]
    refine hc.st k Oo ?_
    rcases Wk.1 hkm with h | h
    ·exact h
    ·rw [Wl] at h;exact absurd h hkf
  ·rw [e6]
   cases fr with
   | nil =>
    have h1:i.first = -1:=hc.first
    rw [if_pos h1]
    rfl
   | cons g l =>
    have h1:i.first=(g:Int):=hc.first
    rw [if_neg Oo,h1]
    rfl
  ·rw [e5,List.getLast?_append]
   simp
theorem lnk_other{s:Sp}(hs:XA s){i:Inc}{fr:List Nat}(hc:IncC s.fs i fr){f:Nat}(hf:f < s.fs.length)(h0:s.fs[f].ow = -1){k:Nat}(hk:k < s.fs.length)(h':k < (lnk s.fs i f).1.length)(hkf:k≠f)(hkr:k∉fr):(lnk s.fs i f).1[k]=s.fs[k]:=by
 obtain ⟨a,b,c⟩:=(lnk_at hs hc hf h0).2 k hk h' hkf
 rw [if_neg (λe=>hkr (VT e))] at c
 generalize (lnk s.fs i f).1[k]=x at *
 generalize s.fs[k]=y at *
 cases x
 cases y
 simp only at a b c
 subst a;subst b;subst c
 rfl
theorem lnk_free{s:Sp}(hs:XA s){i:Inc}{fr:List Nat}(hc:IncC s.fs i fr){f:Nat}(hf:frF s.fs=some f):Qj (lnk s.fs i f).1=(Qj s.fs).tail:=by
 obtain ⟨hfl,h0⟩:=QdR hf
 obtain ⟨p1,p2⟩:=lnk_at hs hc hfl h0
 have hlen:=lnk_len s.fs i f
 have hq:=hc.sq.1
 have e1:∀ k∈List.range s.fs.length,isFr (lnk s.fs i f).1 k=(isFr s.fs k && !decide (k=f)):=λk hk=>by
  have hk:=WC.1 hk
  rw [QaM Oo,QaM hk]
  by_cases hkf:k=f
  ·subst hkf
   rw [p1 Oo]
   have:¬ i.seq = -1:=by omega
   simp [this]
  ·rw [(p2 k hk Oo hkf).1]
   simp [hkf]
 have e2:Qj (lnk s.fs i f).1=(Qj s.fs).filter λk=>!decide (k=f):=by
  unfold Qj
  rw [hlen,Ym]
  refine UA λk hk=>?_
  rw [e1 k hk,Bool.and_comm]
 have hnd:(Qj s.fs).Nodup:=List.Pairwise.filter _ U5
 unfold frF at hf
 cases hx:Qj s.fs with
 | nil=>rw [hx] at hf;cases hf
 | cons g l =>
  rw [hx] at hf hnd
  injection hf with hf
  subst hf
  rw [e2,hx,List.tail_cons,List.filter_cons_of_neg Os]
  refine VM.2 λk hk=>?_
  have:=(Uv.1 hnd).1
  have hne:k≠g:=λe=>this (e▸hk)
  simp [hne]
def Xz:Nat->List Fe->Inc->List Fe×Inc
 | 0,fs,i=>(fs,i)
 | n+1,fs,i=>match frF fs with
  | none=>(fs,i)
  | some f=>Xz n (lnk fs i f).1 (lnk fs i f).2
structure GrowOk(s:Sp)(i:Inc)(fr:List Nat)(n:Nat)(fs':List Fe)(i':Inc):Prop where
 sp:XA ⟨s.sh,s.ws,fs'⟩
 len:fs'.length=s.fs.length
 inc:IncC fs' i' (fr++(Qj s.fs).take n)
 free:Qj fs'=(Qj s.fs).drop n
 words:i'.words=i.words/\i'.seq=i.seq/\i'.belt=i.belt
 other:∀ k (h:k < s.fs.length) (h':k < fs'.length),k∉fr->k∉(Qj s.fs).take n->fs'[k]=s.fs[k]
theorem QdQ:∀ (n:Nat) {s:Sp} {i:Inc} {fr:List Nat},XA s->IncC s.fs i fr->n<=(Qj s.fs).length->GrowOk s i fr n (Xz n s.fs i).1 (Xz n s.fs i).2
 | 0,s,i,fr,hs,hc,_=>⟨hs,rfl,by simpa [Xz] using hc,by simp [Xz],⟨rfl,rfl,rfl⟩,λ_ _ _ _ _=>rfl⟩
 | n+1,s,i,fr,hs,hc,hn=>by
  obtain ⟨f,hf⟩:=frF_of (fs:=s.fs) (λe=>by rw [e] at hn;simp at hn)
  obtain ⟨hfl,h0⟩:=QdR hf
  obtain ⟨k1,k2⟩:=lnk_ok hs hc hfl h0
  have kf:=lnk_free hs hc hf
  have hx:Qj s.fs=f :: (Qj s.fs).tail:=by
   unfold frF at hf
   cases hx:Qj s.fs with
   | nil=>rw [hx] at hf;cases hf
   | cons g l=>rw [hx] at hf;injection hf with hf;subst hf;rfl
  have hw:(lnk s.fs i f).2.words=i.words/\(lnk s.fs i f).2.seq=i.seq/\(lnk s.fs i f).2.belt=i.belt:=by
   unfold lnk
   dsimp only
   split <;> exact ⟨rfl,rfl,rfl⟩
  have g:=QdQ n (s:=⟨s.sh,s.ws,(lnk s.fs i f).1⟩) k1 k2 (by show n<=(Qj (lnk s.fs i f).1).length;rw [kf,List.length_tail];omega)
  have e:Xz (n+1) s.fs i=Xz n (lnk s.fs i f).1 (lnk s.fs i f).2:=by
   show (match frF s.fs with | none=>(s.fs,i) | some f=>Xz n (lnk s.fs i f).1 (lnk s.fs i f).2)=_
   rw [hf]
  rw [e]
  have ht:(Qj s.fs).take (n+1)=f :: (Qj s.fs).tail.take n:=by rw [hx];rfl
  refine ⟨g.sp,g.len.trans (lnk_len _ _ _),?_,?_,⟨g.words.1.trans hw.1,g.words.2.1.trans hw.2.1,g.words.2.2.trans hw.2.2⟩,λk h h' hk hk2=>?_⟩
  ·have:=g.inc
   dsimp only at this
   rw [kf,WX] at this
   rw [ht]
   exact this
  ·have:=g.free
   dsimp only at this
   rw [this,kf,hx]
   rfl
  ·rw [ht,Wv,not_or] at hk2
   have hl:k < (lnk s.fs i f).1.length:=by rw [lnk_len];exact h
   rw [<- lnk_other hs hc hfl h0 h hl hk2.1 hk]
   refine g.other k hl h' ?_ ?_
   ·rw [Wk,Wl,not_or]
    exact ⟨hk,hk2.1⟩
   ·dsimp only
    rw [kf]
    exact hk2.2
def adr(z:Nat)(fr:List Nat)(p:Nat):Nat:=(fr[p / z]?).getD 0 * z+p % z
theorem Chn.drop{fs:List Fe}:∀ (n:Nat) {l:List Nat},Chn fs l->Chn fs (l.drop n)
 | 0,_,h=>h
 | n+1,[],h=>trivial
 | n+1,f :: l,h=>h.2.2.drop n
def Own(fs:List Fe)(fr:List Nat):Prop:=∀ k∈fr,∀ h:k < fs.length,¬ fs[k].ow = -1
theorem IncC.own{fs:List Fe}{i:Inc}{fr:List Nat}(h:IncC fs i fr):Own fs fr:=λk hk hl e=>by
 have:=(h.ow k hl).2 hk
 have:=h.sq.1
 omega
theorem Qcf{z:Nat}(hz:0 < z)(fr:List Nat)(p:Nat):adr z fr p / z=(fr[p / z]?).getD 0/\adr z fr p % z=p % z:=by
 unfold adr
 have:=UN p hz
 refine ⟨?_,?_⟩
 ·rw [YU,YK _ _ hz,U3 this,Vs]
 ·rw [YU,Nat.add_mul_mod_self_right,VD this]
theorem Jt{s:Sp}(hs:Qbs s){fr:List Nat}(hl:∀ k∈fr,k < s.fs.length){p:Nat}(hp:p < fr.length * szS s):adr (szS s) fr p < s.ws.length:=by
 obtain ⟨g1,g2,g3,g4,g5⟩:=hs.z
 have h1:p / szS s < fr.length:=Vg (by rw [Vw];exact hp)
 have h2:=hl _ (Wd h1)
 unfold adr
 rw [Wa h1,Wy,hs.wl]
 have h3:=UN p (show 0 < szS s by omega)
 have h4:(fr[p / szS s]+1) * szS s<=s.fs.length * szS s:=WG _ h2
 rw [Vu] at h4
 omega
theorem div_sub{z p k:Nat}(hz:0 < z):(p % z+k) / z+p / z=(p+k) / z/\(p % z+k) % z=(p+k) % z:=by
 have h:=UK p z
 have e:p+k=(p % z+k)+z * (p / z):=by omega
 refine ⟨?_,?_⟩
 ·rw [e,Nat.add_mul_div_left _ _ hz]
 ·rw [e,Nat.add_mul_mod_self_left]
theorem go_adr{s:Sp}(hs:Qbs s){fr:List Nat}(hc:Chn s.fs fr)(ho:Own s.fs fr){p k:Nat}(hp:p < fr.length * szS s) :
  GoR s ((adr (szS s) fr p:Nat):Int) (k:Int)=if p+k < fr.length * szS s then (((adr (szS s) fr (p+k):Nat):Int),(0:Int)) else (0,2):=by
 obtain ⟨g1,g2,g3,g4,g5⟩:=hs.z
 have hz:0 < szS s:=by omega
 have h1:p / szS s < fr.length:=Vg (by rw [Vw];exact hp)
 have hlt:=Jt hs hc.lt hp
 obtain ⟨d1,d2⟩:=Qcf hz fr p
 rw [Wa h1,Wy] at d1
 have hf:=hc.lt _ (Wd h1)
 rw [GoR_in Oo Oo Oo,<- Ub,<- Int.natCast_emod,d1,d2,ownF_at hf,if_neg (ho _ (Wd h1) hf)]
 obtain ⟨q1,q2⟩:=div_sub (p:=p) (k:=k) hz
 have hd:fr.drop (p / szS s)=fr[p / szS s] :: fr.drop (p / szS s+1):=WO h1
 have hc2:=hc.drop (p / szS s)
 rw [hd] at hc2
 have hit:=hc2.it ((p % szS s+k) / szS s)
 rw [<- hd,Ve,YU (p / szS s),q1] at hit
 unfold adv
 rw [show ((p % szS s:Nat):Int)+(k:Int)=((p % szS s+k:Nat):Int) by push_cast;rfl,<- Ub,<- Int.natCast_emod,Wc,hit,q2]
 by_cases hpk:p+k < fr.length * szS s
 ·have h2:(p+k) / szS s < fr.length:=Vg (by rw [Vw];exact hpk)
  rw [if_pos hpk,Wa h2]
  dsimp only
  rw [if_pos (Int.natCast_nonneg _)]
  unfold adr
  rw [Wa h2,Wy]
  push_cast
  rfl
 ·have h2:fr.length<=(p+k) / szS s:=by
   rw [YL hz]
   omega
  rw [if_neg hpk,Wf h2]
  rfl
theorem QaS{z:Nat}(hz:0 < z){fr:List Nat}(hn:fr.Nodup){p q:Nat}(hp:p < fr.length * z)(hq:q < fr.length * z)(e:adr z fr p=adr z fr q):p=q:=by
 have h1:p / z < fr.length:=Vg (by rw [Vw];exact hp)
 have h2:q / z < fr.length:=Vg (by rw [Vw];exact hq)
 obtain ⟨a1,a2⟩:=Qcf hz fr p
 obtain ⟨b1,b2⟩:=Qcf hz fr q
 rw [e] at a1 a2
 rw [Wa h1,Wy] at a1
 rw [Wa h2,Wy] at b1
 have h3:fr[p / z]=fr[q / z]:=by rw [<- a1,<- b1]
 have h4:p / z=q / z:=by
  by_cases hne:p / z=q / z
  ·exact hne
  ·have hpw:=Wx.1 hn
   rcases UM hne with h | h
   ·exact absurd h3 (hpw _ _ h1 h2 h)
   ·exact absurd h3.symm (hpw _ _ h2 h1 h)
 have e1:=UK p z
 have e2:=UK q z
 rw [h4] at e1
 omega
theorem Qdg{z:Nat}(hz:0 < z){fr fr':List Nat}(hd:∀ k∈fr,k∉fr'){p q:Nat}(hp:p < fr.length * z)(hq:q < fr'.length * z):adr z fr p≠adr z fr' q:=λe=>by
 have h1:p / z < fr.length:=Vg (by rw [Vw];exact hp)
 have h2:q / z < fr'.length:=Vg (by rw [Vw];exact hq)
 obtain ⟨a1,_⟩:=Qcf hz fr p
 obtain ⟨b1,_⟩:=Qcf hz fr' q
 rw [e] at a1
 rw [Wa h1,Wy] at a1
 rw [Wa h2,Wy] at b1
 have h3:fr[p / z]=fr'[q / z]:=by rw [<- a1,<- b1]
 exact hd _ (Wd h1) (h3▸Wd h2)
theorem ZO{z:Nat}(hz:0 < z){fr l:List Nat}{p:Nat}(hp:p < fr.length * z):adr z (fr++l) p=adr z fr p:=by
 have h1:p / z < fr.length:=Vg (by rw [Vw];exact hp)
 unfold adr
 rw [WK h1]
theorem sub_len:∀ (l l':List Nat),l.Nodup->(∀ x∈l,x∈l')->l.length<=l'.length
 | [],_,_,_=>W9 _
 | x :: l,l',hn,h=>by
  have hx:=h x Os
  have hn2:=Uv.1 hn
  have:=sub_len l (l'.erase x) hn2.2 λy hy=>(List.mem_erase_of_ne (λ(e:y=x)=>hn2.1 (by rw [<- e];exact hy))).2 (h y (Wm _ hy))
  rw [List.length_erase_of_mem hx] at this
  have h1:0 < l'.length:=List.length_pos_of_mem hx
  rw [WP]
  omega
def isOw(fs:List Fe)(q:Int)(k:Nat):Bool:=match fs[k]? with | some f=>decide (f.ow=q) | none=>false
theorem isOw_at{fs:List Fe}{q:Int}{k:Nat}(h:k < fs.length):isOw fs q k=decide (fs[k].ow=q):=by unfold isOw;rw [Wa h]
structure Qch(s:Sp)(i:Inc)(fr:List Nat):Prop extends IncC s.fs i fr where
 wd:0<=i.words/\i.words<=s.ws.length
 len:(fr.length:Int)=clN s i.words
theorem Qcb{s:Sp}(hs:Qcg s.sh){n:Nat}(hn:n<=1099511627776):clN s (n:Int)=((n+szS s - 1) / szS s:Nat):=by
 obtain ⟨g1,g2,g3,g4,g5⟩:=XC hs
 unfold clN
 rw [if_neg Oo]
 push_cast [Int.natCast_sub (show 1<=n+szS s by omega)]
 rfl
theorem nodup_len{n:Nat}{l:List Nat}(hn:l.Nodup)(h:∀ x∈l,x < n):l.length<=n:=Qcv n l hn h
theorem growN_succ:∀ (n:Nat) (fs:List Fe) (i:Inc),Xz (n+1) fs i=match frF (Xz n fs i).1 with
  | none=>Xz n fs i
  | some f=>lnk (Xz n fs i).1 (Xz n fs i).2 f
 | 0,fs,i=>by
  show (match frF fs with | none=>(fs,i) | some f=>Xz 0 (lnk fs i f).1 (lnk fs i f).2)=(match frF fs with | none=>(fs,i) | some f=>lnk fs i f)
  cases frF fs <;> rfl
 | n+1,fs,i=>by
  have e:∀ m,Xz (m+1) fs i=match frF fs with | none=>(fs,i) | some f=>Xz m (lnk fs i f).1 (lnk fs i f).2:=λ_=>rfl
  rw [e (n+1),e n]
  cases h:frF fs with
  | none=>dsimp only;rw [h]
  | some f=>dsimp only;exact growN_succ n _ _
def exN(s:Sp)(i:Inc)(n:Int):Nat:=(clN s (i.words+n) - clN s i.words).toNat
def grw(s:Sp)(i:Inc)(n:Int):Inc:=let j:=(Xz (exN s i n) s.fs i).2;⟨j.seq,j.belt,j.first,j.last,i.words+n⟩
def QX(s:Sp)(i:Inc)(n:Int):List Fe:=(Xz (exN s i n) s.fs i).1
theorem exN_ok{s:Sp}(hs:Qbs s){i:Inc}{n:Int}(h0:0<=i.words/\i.words<=s.ws.length)(hn:1<=n/\n<=48):clN s (i.words+n) - clN s i.words=exN s i n/\exN s i n<=7:=by
 obtain ⟨g1,g2,g3,g4,g5⟩:=hs.z
 have hw:=hs.small
 obtain ⟨a,ha⟩:∃ a:Nat,i.words=a:=⟨i.words.toNat,Oo⟩
 obtain ⟨b,rfl⟩:∃ b:Nat,n=b:=⟨n.toNat,Oo⟩
 unfold exN
 rw [ha,show (a:Int)+(b:Int)=((a+b:Nat):Int) by push_cast;rfl,Qcb hs.sh Oo,Qcb hs.sh Oo]
 have h1:(a+szS s - 1) / szS s<=(a+b+szS s - 1) / szS s:=Nat.div_le_div_right Oo
 have h2:(a+b+szS s - 1) / szS s<=(a+szS s - 1) / szS s+7:=by
  have:a+b+szS s - 1<=(a+szS s - 1)+6 * szS s:=by omega
  have h3:=Nat.div_le_div_right (c:=szS s) this
  rw [YK _ _ Oo] at h3
  omega
 omega
theorem Jk{s:Sp}(hs:Qbs s){i:Inc}{fr:List Nat}(h:Qch s i fr){n:Int}(hn:1<=n/\n<=48):i.words+n<=((fr.length+exN s i n) * szS s:Nat)/\0 < fr.length+exN s i n/\((fr.length+exN s i n:Nat):Int)=clN s (i.words+n):=by
 obtain ⟨g1,g2,g3,g4,g5⟩:=hs.z
 have hw:=hs.small
 obtain ⟨e1,e2⟩:=exN_ok hs h.wd hn
 have hl:=h.len
 have e3:((fr.length+exN s i n:Nat):Int)=clN s (i.words+n):=by push_cast;omega
 obtain ⟨a,ha⟩:∃ a:Nat,i.words+n=a:=⟨(i.words+n).toNat,by have:=h.wd.1;omega⟩
 have e4:=e3
 rw [ha,Qcb hs.sh (by have:=h.wd.2;omega)] at e4
 have e5:fr.length+exN s i n=(a+szS s - 1) / szS s:=by omega
 have e6:a<=(a+szS s - 1) / szS s * szS s:=by
  have h1:=UK (a+szS s - 1) (szS s)
  have h2:=UN (a+szS s - 1) (show 0 < szS s by omega)
  rw [Vw] at h1
  omega
 refine ⟨by rw [ha,e5];omega,?_,e3⟩
 rw [e5]
 have:1<=(a+szS s - 1) / szS s:=by rw [YL Oo];have:=h.wd.1;omega
 omega
structure GrwOk(s:Sp)(i:Inc)(fr:List Nat)(n:Int):Prop where
 sp:XA ⟨s.sh,s.ws,QX s i n⟩
 len:(QX s i n).length=s.fs.length
 inc:Qch ⟨s.sh,s.ws,QX s i n⟩ (grw s i n) (fr++(Qj s.fs).take (exN s i n))
 free:Qj (QX s i n)=(Qj s.fs).drop (exN s i n)
 same:(grw s i n).words=i.words+n/\(grw s i n).seq=i.seq/\(grw s i n).belt=i.belt
 other:∀ k (h:k < s.fs.length) (h':k < (QX s i n).length),k∉fr->k∉(Qj s.fs).take (exN s i n)->(QX s i n)[k]=s.fs[k]
theorem Qet{s:Sp}(hs:XA s){i:Inc}{fr:List Nat}(h:Qch s i fr){n:Int}(hn:1<=n/\n<=48)(hf:exN s i n<=(Qj s.fs).length):GrwOk s i fr n:=by
 have g:=QdQ (exN s i n) hs h.toIncC hf
 obtain ⟨w1,w2,w3⟩:=Jk hs.shp h hn
 have hc:IncC (QX s i n) (grw s i n) (fr++(Qj s.fs).take (exN s i n)):=by
  have:=g.inc
  exact ⟨this.sq,this.bl,this.ch,this.nd,this.ow,this.st,this.first,this.last⟩
 have hlen:(fr++(Qj s.fs).take (exN s i n)).length=fr.length+exN s i n:=by
  rw [Wn,Ws,W7 hf]
 refine ⟨g.sp,g.len,{ hc with wd:=⟨by have:=h.wd.1;show 0<=i.words+n;omega,?_⟩,len:=?_ },g.free,⟨rfl,g.words.2.1,g.words.2.2⟩,g.other⟩
 ·show i.words+n<=s.ws.length
  have h1:=nodup_len hc.nd hc.ch.lt
  rw [hlen,show (QX s i n).length=s.fs.length from g.len] at h1
  have h2:(fr.length+exN s i n) * szS s<=s.fs.length * szS s:=WG _ h1
  rw [hs.shp.wl]
  omega
 ·rw [hlen]
  exact w3
theorem GrwOk.at{s:Sp}{i:Inc}{fr:List Nat}{n:Int}(h:GrwOk s i fr n)(hs:XA s)(hi:Qch s i fr)(hn:1<=n/\n<=48)(hf:exN s i n<=(Qj s.fs).length) :
  GoR ⟨s.sh,s.ws,QX s i n⟩ ((grw s i n).first * 2 ^ s.sh.toNat) i.words=(((adr (szS s) (fr++(Qj s.fs).take (exN s i n)) i.words.toNat:Nat):Int),0):=by
 obtain ⟨g1,g2,g3,g4,g5⟩:=hs.shp.z
 obtain ⟨w1,w2,w3⟩:=Jk hs.shp hi hn
 have hlen:(fr++(Qj s.fs).take (exN s i n)).length=fr.length+exN s i n:=by
  rw [Wn,Ws,W7 hf]
 obtain ⟨a,ha⟩:∃ a:Nat,i.words=a:=⟨i.words.toNat,by have:=hi.wd.1;omega⟩
 have hf0:=h.inc.first
 have hch:=h.inc.ch
 have hown:=h.inc.own
 generalize hF:fr++(Qj s.fs).take (exN s i n)=F at *
 cases F with
 | nil=>simp at hlen;omega
 | cons f l =>
  have e0:adr (szS s) (f :: l) 0=f * szS s:=by
   unfold adr
   simp
  have hgo:=go_adr (s:=⟨s.sh,s.ws,QX s i n⟩) h.sp.shp hch hown (p:=0) (k:=a) (by show 0 < (f :: l).length * szS s;rw [hlen];exact Nat.mul_pos w2 Oo)
  rw [show szS (⟨s.sh,s.ws,QX s i n⟩:Sp)=szS s from rfl,e0] at hgo
  rw [hf0,g5,ha]
  show GoR _ ((f:Int) * (szS s:Int)) (a:Int)=_
  rw [show (f:Int) * (szS s:Int)=((f * szS s:Nat):Int) by push_cast;rfl,hgo,if_pos (by rw [hlen];omega),Vs]
  rfl
theorem grow_spec{s:Sp}(hs:XA s){i:Inc}{fr:List Nat}(hi:Qch s i fr){n:Int}(hn:1<=n/\n<=48) :
  Xa s i n=some (if exN s i n<=(Qj s.fs).length then (grw s i n,((adr (szS s) (fr++(Qj s.fs).take (exN s i n)) i.words.toNat:Nat):Int),0,QX s i n) else (⟨0,0,0,0,0⟩,0,4,s.fs)):=by
 obtain ⟨g1,g2,g3,g4,g5⟩:=hs.shp.z
 have hw:=hs.shp.small
 have h64:=hs.shp.hi
 obtain ⟨e1,e2⟩:=exN_ok hs.shp hi.wd hn
 have hwd:=hi.wd
 unfold Xa
 have x1:ZF s i n=some (exN s i n:Int):=by
  rw [extra_c hs.shp.sh (by unfold I64;omega) (by unfold I64;omega),e1]
 refine Qce x1 ?_
 refine Qce (free_ok s Oo) ?_
 rw [Wb]
 by_cases hf:exN s i n<=(Qj s.fs).length
 ·rw [if_neg Oo]
  have gk:=Qet hs hi hn hf
  have lp:Qi (λ(s8:List Fe×Inc×Int) =>
    if 0 < s8.2.2 then
     ((XQ (Sp.mk s.sh s.ws s8.1) s8.2.1.seq s8.2.1.belt).bind λv13 =>
      if v13.2.length=s8.1.length then
       if s8.2.1.first=(-1) then (some (.go ((v13.2,Inc.mk s8.2.1.seq s8.2.1.belt v13.1 v13.1 s8.2.1.words,w64 (s8.2.2 - 1)))))
       else (at_ v13.2 s8.2.1.last).bind λv16=>some (.go ((v13.2.set (Int.toNat s8.2.1.last) (Fe.mk v16.ow v16.st v13.1),Inc.mk s8.2.1.seq s8.2.1.belt s8.2.1.first v13.1 s8.2.1.words,w64 (s8.2.2 - 1))))
      else none)
    else some (.out ((s8.1,s8.2.1)))) (s.fs,i,(exN s i n:Int))=some (QX s i n,(Xz (exN s i n) s.fs i).2):=by
   refine QdM (σ:=List Fe×Inc×Int) (λj=>((Xz j s.fs i).1,(Xz j s.fs i).2,((exN s i n:Int) - (j:Int)))) (exN s i n) (λj hj=>?_) ?_
   ·have gj:=QdQ j hs hi.toIncC Oo
    have hfj:Qj (Xz j s.fs i).1≠[]:=λe=>by
     have:=congrArg List.length (gj.free.symm.trans e)
     rw [WY] at this
     simp at this
     omega
    obtain ⟨f,hff⟩:=frF_of hfj
    obtain ⟨hfl,h0⟩:=QdR hff
    have hsq:=gj.inc.sq
    have hbl:=gj.inc.bl
    have hl:=lift_spec ⟨s.sh,s.ws,(Xz j s.fs i).1⟩ (Xz j s.fs i).2.seq (Xz j s.fs i).2.belt hff (by show (Xz j s.fs i).1.length<=_;rw [gj.len];omega) hsq hbl
    have hsucc:=growN_succ j s.fs i
    rw [hff] at hsucc
    dsimp only at hsucc hl ⊢
    rw [if_pos Oo,hl]
    simp only [WZ]
    rw [if_pos Os,hsucc,show w64 ((exN s i n:Int) - (j:Int) - 1)=(exN s i n:Int) - ((j+1:Nat):Int) from by rw [Qd Oo];push_cast;omega]
    generalize (Xz j s.fs i).1=fs at *
    generalize hI:(Xz j s.fs i).2=I at *
    unfold lnk
    dsimp only
    by_cases h1:I.first = -1
    ·rw [if_pos h1,if_pos h1]
    ·rw [if_neg h1,if_neg h1]
     have hlast:=gj.inc.last
     cases hg:(fr++(Qj s.fs).take j).getLast? with
     | none =>
      have hn0:=Yn.1 hg
      exact absurd (by rw [gj.inc.first,hn0];rfl) h1
     | some l =>
      rw [hg] at hlast
      dsimp only at hlast
      have hll:=gj.inc.ch.lt l (VT hg)
      have hlt:I.last.toNat < (fs.set f ⟨I.seq,I.belt * 4294967296+I.seq,-1⟩).length:=by rw [Ww,hlast];exact hll
      rw [at_int (by rw [hlast];omega) hlt,Wa hlt]
      rfl
   ·dsimp only
    rw [if_neg Oo]
    rfl
  refine Qce (a:=(QX s i n,(Xz (exN s i n) s.fs i).2)) lp ?_
  dsimp only
  have hwu:wu s.sh=s.sh:=Jd Oo
  rw [hwu,if_pos g1]
  have hsp:=gk.sp
  have hfst:0<=(grw s i n).first/\(grw s i n).first < s.fs.length:=by
   have hf0:=gk.inc.first
   obtain ⟨w1,w2,w3⟩:=Jk hs.shp hi hn
   cases hh:(fr++(Qj s.fs).take (exN s i n)).head? with
   | none =>
    have:=YG.1 hh
    have h2:=congrArg List.length this
    rw [Wn,Ws,W7 hf,VL] at h2
    omega
   | some x =>
    rw [hh] at hf0
    have:=gk.inc.ch.lt x (List.mem_of_head? hh)
    have h3:(⟨s.sh,s.ws,QX s i n⟩:Sp).fs.length=s.fs.length:=gk.len
    rw [h3] at this
    rw [hf0]
    dsimp only
    omega
  have hshl:Qcq .i64 (Xz (exN s i n) s.fs i).2.first s.sh=(grw s i n).first * 2 ^ s.sh.toNat:=by
   obtain ⟨e,he⟩:∃ e:Nat,s.sh=e:=⟨s.sh.toNat,Oo⟩
   have hb:0<=(grw s i n).first * 2 ^ s.sh.toNat/\(grw s i n).first * 2 ^ s.sh.toNat<=16384:=by
    rw [g5]
    refine ⟨Yk hfst.1 Oo,?_⟩
    have h1:(grw s i n).first * (szS s:Int)<=(64:Int) * (szS s:Int):=V1 Oo Oo
    have h2:(64:Int) * (szS s:Int)<=64 * 256:=by omega
    omega
   rw [he] at hb ⊢
   rw [Wc] at hb ⊢
   exact shl_pow Oo (by show _<=(grw s i n).first * 2 ^ e/\(grw s i n).first * 2 ^ e<=_;omega)
  rw [hshl]
  have hgo:QB ⟨s.sh,s.ws,QX s i n⟩ ((grw s i n).first * 2 ^ s.sh.toNat) i.words=some (((adr (szS s) (fr++(Qj s.fs).take (exN s i n)) i.words.toNat:Nat):Int),0):=by
   have h1:(grw s i n).first * (szS s:Int)<=(64:Int) * (szS s:Int):=V1 Oo Oo
   have h2:(64:Int) * (szS s:Int)<=64 * 256:=by omega
   have h3:0<=(grw s i n).first * (szS s:Int):=Yk hfst.1 Oo
   have hI:I64 ((grw s i n).first * 2 ^ s.sh.toNat):=by rw [g5];unfold I64;omega
   have hJ:I64 i.words:=by unfold I64;omega
   rw [go_c (s:=⟨s.sh,s.ws,QX s i n⟩) hsp.shp (Z1 hsp.fm) hI hJ,gk.at hs hi hn hf]
  refine Qce hgo ?_
  have hwn:w64 ((Xz (exN s i n) s.fs i).2.words+n)=i.words+n:=by
   rw [(QdQ (exN s i n) hs hi.toIncC hf).words.1]
   exact Qd Oo
  rw [hwn,if_pos hf]
  rfl
 ·rw [if_pos Oo,if_neg hf]
theorem Qch.nil{s:Sp}(hs:Qbs s){i:Inc}{fr:List Nat}(h:Qch s i fr)(h0:i.words=0):fr=[]:=by
 obtain ⟨g1,g2,g3,g4,g5⟩:=hs.z
 have hl:=h.len
 rw [h0,show (0:Int)=((0:Nat):Int) from rfl,Qcb hs.sh Oo,Vs,U3 Oo] at hl
 exact VK.1 Oo
theorem sp_ws{s:Sp}(hs:XA s){ws:List Int}(hl:ws.length=s.ws.length)(h:∀ k (hk:k < s.fs.length),s.fs[k].ow = -1->∀ a (h1:a < s.ws.length) (h2:a < ws.length),a / szS s=k->ws[a]=s.ws[a]):XA ⟨s.sh,ws,s.fs⟩:=by
 obtain ⟨g1,g2,g3,g4,g5⟩:=hs.shp.z
 refine ⟨⟨hs.shp.sh,hs.shp.lo,hs.shp.hi,by show ws.length=_;rw [hl];exact hs.shp.wl⟩,λi hi=>?_,hs.uq,hs.ends⟩
 rcases hs.fm i hi with q | q
 ·refine .inl ⟨q.1,q.2.1,q.2.2.1,λa ha h1 h2=>?_⟩
  have ha2:a < s.ws.length:=by have:a < ws.length:=ha;omega
  show ws[a]=0
  have e:szS (⟨s.sh,ws,s.fs⟩:Sp)=szS s:=rfl
  rw [e] at h1 h2
  have hd:a / szS s=i:=UH h1 h2
  rw [h i hi q.1 a ha2 ha hd]
  exact q.2.2.2 a ha2 h1 h2
 ·exact .inr q
theorem clrL_get(s:Sp)(a:Int):∀ (n:Nat) (l:List Int) (x:Nat),(∀ k:Nat,1<=k->k<=n->(GoR s a (k:Int)).1.toNat≠x)->(clrL s a n l)[x]?=l[x]?
 | 0,l,x,_=>rfl
 | n+1,l,x,h=>by
  unfold clrL
  rw [WA (by have:=h (n+1) Oo Oo;exact_mod_cast this)]
  exact clrL_get s a n l x λk h1 h2=>h k h1 Oo
theorem clrL_zero(s:Sp)(a:Int):∀ (n:Nat) (l:List Int) (k:Nat),1<=k->k<=n->(GoR s a (k:Int)).1.toNat < l.length->(clrL s a n l)[(GoR s a (k:Int)).1.toNat]?=some 0
 | 0,l,k,h1,h2,_=>by omega
 | n+1,l,k,h1,h2,hl=>by
  unfold clrL
  by_cases he:(GoR s a ((n+1:Nat):Int)).1.toNat=(GoR s a (k:Int)).1.toNat
  ·rw [he,WB (by rw [clrL_len];exact hl)]
  ·rw [WA he]
   have:k≠n+1:=λe=>he (by rw [e])
   exact clrL_zero s a n l k h1 Oo hl
def iniW(s:Sp)(a r d:Nat):List Int:=clrL s a (r+d) (s.ws.set a (hdW r d))
theorem QdO(s:Sp)(a r d:Nat):(iniW s a r d).length=s.ws.length:=by unfold iniW;rw [clrL_len,Ww]
section
variable{s:Sp}{fr:List Nat}{p r d:Nat}
theorem go_k(hs:Qbs s)(hc:Chn s.fs fr)(ho:Own s.fs fr){k:Nat}(h:p+k < fr.length * szS s):GoR s ((adr (szS s) fr p:Nat):Int) (k:Int)=(((adr (szS s) fr (p+k):Nat):Int),0):=by
 rw [go_adr hs hc ho Oo,if_pos h]
theorem iniW_hd(hs:Qbs s)(hc:Chn s.fs fr)(hn:fr.Nodup)(ho:Own s.fs fr)(hp:p+r+d < fr.length * szS s):(iniW s (adr (szS s) fr p) r d)[adr (szS s) fr p]?=some (hdW r d):=by
 obtain ⟨g1,g2,g3,g4,g5⟩:=hs.z
 unfold iniW
 rw [clrL_get _ _ _ _ _ λk h1 h2 e=>?_,WB (Jt hs hc.lt Oo)]
 rw [go_k hs hc ho Oo] at e
 have:=QaS Oo hn Oo Oo (show adr (szS s) fr (p+k)=adr (szS s) fr p from e)
 omega
theorem iniW_0(hs:Qbs s)(hc:Chn s.fs fr)(hn:fr.Nodup)(ho:Own s.fs fr)(hp:p+r+d < fr.length * szS s){k:Nat}(h1:1<=k)(h2:k<=r+d):(iniW s (adr (szS s) fr p) r d)[adr (szS s) fr (p+k)]?=some 0:=by
 have e:=go_k (k:=k) hs hc ho (p:=p) Oo
 have:=clrL_zero s ((adr (szS s) fr p:Nat):Int) (r+d) (s.ws.set (adr (szS s) fr p) (hdW r d)) k h1 h2 (by rw [e,Ww];exact Jt hs hc.lt Oo)
 rw [e] at this
 exact this
theorem Qbm(hs:Qbs s)(hc:Chn s.fs fr)(ho:Own s.fs fr)(hp:p+r+d < fr.length * szS s){x:Nat}(h:∀ k,k<=r+d->x≠adr (szS s) fr (p+k)):(iniW s (adr (szS s) fr p) r d)[x]?=s.ws[x]?:=by
 have h0:x≠adr (szS s) fr p:=h 0 (W9 _)
 unfold iniW
 rw [clrL_get _ _ _ _ _ λk h1 h2 e=>?_,WA λe=>h0 e.symm]
 rw [go_k hs hc ho Oo] at e
 exact h k h2 e.symm
theorem ini_sp(hs:XA s)(hW:SpW s)(hc:Chn s.fs fr)(hn:fr.Nodup)(ho:Own s.fs fr)(hp:p+r+d < fr.length * szS s)(hr:r<=15)(hd:d<=32):XA ⟨s.sh,iniW s (adr (szS s) fr p) r d,s.fs⟩/\SpW ⟨s.sh,iniW s (adr (szS s) fr p) r d,s.fs⟩:=by
 obtain ⟨g1,g2,g3,g4,g5⟩:=hs.shp.z
 refine ⟨sp_ws hs (QdO ..) λk hk hfree a h1 h2 hak=>?_,λx hx=>?_,hW.2⟩
 ·have:=Qbm hs.shp hc ho hp (x:=a) λj hj e=>?_
  ·rw [Wa h2,Wa h1] at this
   exact Vq this
  ·obtain ⟨d1,_⟩:=Qcf (show 0 < szS s by omega) fr (p+j)
   have hj2:(p+j) / szS s < fr.length:=Vg (by rw [Vw];omega)
   rw [<- e,hak,Wa hj2,Wy] at d1
   subst d1
   exact ho _ (Wd hj2) hk hfree
 ·have hx:x∈iniW s (adr (szS s) fr p) r d:=hx
  obtain ⟨a,ha,rfl⟩:=Um hx
  have h1:(iniW s (adr (szS s) fr p) r d)[a]?=some (iniW s (adr (szS s) fr p) r d)[a]:=Wa ha
  by_cases hk:∃ k,k<=r+d/\a=adr (szS s) fr (p+k)
  ·obtain ⟨k,hk,e⟩:=hk
   by_cases h0:k=0
   ·subst h0
    subst e
    have this:(iniW s (adr (szS s) fr p) r d)[adr (szS s) fr (p+0)]?=some (hdW r d):=iniW_hd hs.shp hc hn ho hp
    rw [h1] at this
    rw [Vq this]
    unfold U64 hdW
    omega
   ·subst e
    have:=iniW_0 hs.shp hc hn ho hp (k:=k) Oo hk
    rw [h1] at this
    rw [Vq this]
    unfold U64
    omega
  ·have:=Qbm hs.shp hc ho hp (x:=a) λk hkk e=>hk ⟨k,hkk,e⟩
   rw [h1] at this
   exact hW.1 _ (Wp this.symm)
end
def Lay(z:Nat)(ws:List Int)(fr:List Nat):Nat->List (Nat×Nat)->Nat->Prop
 | p,[],q=>p=q
 | p,(r,d) :: l,q=>r<=15/\d<=32/\ws[adr z fr p]?=some (hdW r d)/\Lay z ws fr (p+1+r+d) l q
theorem Lay.le{z:Nat}{ws:List Int}{fr:List Nat}:∀ {l:List (Nat×Nat)} {p q:Nat},Lay z ws fr p l q->p<=q
 | [],p,q,h=>Nat.le_of_eq h
 | (r,d) :: l,p,q,h=>by have:=h.2.2.2.le;omega
theorem Lay.congr{z:Nat}{ws ws':List Int}{fr fr':List Nat}:∀ {l:List (Nat×Nat)} {p q:Nat},Lay z ws fr p l q->(∀ k,p<=k->k < q->adr z fr' k=adr z fr k/\ws'[adr z fr k]?=ws[adr z fr k]?)->Lay z ws' fr' p l q
 | [],p,q,h,_=>h
 | (r,d) :: l,p,q,h,hk=>by
  obtain ⟨h1,h2,h3,h4⟩:=h
  have hle:=h4.le
  obtain ⟨e1,e2⟩:=hk p (Wo _) Oo
  exact ⟨h1,h2,by rw [e1,e2];exact h3,h4.congr λk a b=>hk k Oo b⟩
theorem Lay.snoc{z:Nat}{ws:List Int}{fr:List Nat}{r d:Nat}(hr:r<=15)(hd:d<=32):∀ {l:List (Nat×Nat)} {p q:Nat},Lay z ws fr p l q->ws[adr z fr q]?=some (hdW r d)->Lay z ws fr p (l++[(r,d)]) (q+1+r+d)
 | [],p,q,h,hw=>by
  have h:p=q:=h
  subst h
  exact ⟨hr,hd,hw,rfl⟩
 | (r',d') :: l,p,q,h,hw=>⟨h.1,h.2.1,h.2.2.1,h.2.2.2.snoc hr hd hw⟩
structure Itm where
 i:Inc
 fr:List Nat
 os:List (Nat×Nat)
structure JN(s:Sp)(x:Itm):Prop where
 inc:Qch s x.i x.fr
 lay:Lay (szS s) s.ws x.fr 0 x.os x.i.words.toNat
structure Qa7(s:Sp)(L:List Itm):Prop where
 ok:XA s
 w:SpW s
 each:∀ x∈L,JN s x
 seqs:L.Pairwise λx y=>x.i.seq≠y.i.seq
 all:∀ k (h:k < s.fs.length),¬ s.fs[k].ow = -1->∃ x∈L,k∈x.fr
theorem JN.room{s:Sp}(hs:Qbs s){x:Itm}(h:JN s x):x.i.words.toNat<=x.fr.length * szS s:=by
 obtain ⟨g1,g2,g3,g4,g5⟩:=hs.z
 have hw:=hs.small
 have hl:=h.inc.len
 have hd:=h.inc.wd
 obtain ⟨a,ha⟩:∃ a:Nat,x.i.words=a:=⟨x.i.words.toNat,Oo⟩
 rw [ha,Qcb hs.sh Oo] at hl
 have e:x.fr.length=(a+szS s - 1) / szS s:=by omega
 rw [e,ha,Wc]
 have h1:=UK (a+szS s - 1) (szS s)
 have h2:=UN (a+szS s - 1) (show 0 < szS s by omega)
 rw [Vw] at h1
 omega
theorem IncC.disj{fs:List Fe}{i j:Inc}{fr fr':List Nat}(h:IncC fs i fr)(h':IncC fs j fr')(hne:i.seq≠j.seq):∀ k∈fr,k∉fr':=λk hk hk'=>by
 have hl:=h.ch.lt k hk
 exact hne (((h.ow k hl).2 hk).symm.trans ((h'.ow k hl).2 hk'))
theorem Qbo{fs:List Fe}{k:Nat}(h:k∈Qj fs):∃ h':k < fs.length,fs[k].ow = -1:=by
 unfold Qj at h
 exact isFr_lt (WI.1 h).2
def QbU(s:Sp)(x:Itm)(r d:Nat):Sp:=⟨s.sh,iniW ⟨s.sh,s.ws,QX s x.i ((1+r+d:Nat):Int)⟩ (adr (szS s) (x.fr++(Qj s.fs).take (exN s x.i ((1+r+d:Nat):Int))) x.i.words.toNat) r d,QX s x.i ((1+r+d:Nat):Int)⟩
def aloX(s:Sp)(x:Itm)(r d:Nat):Itm:=⟨grw s x.i ((1+r+d:Nat):Int),x.fr++(Qj s.fs).take (exN s x.i ((1+r+d:Nat):Int)),x.os++[(r,d)]⟩
theorem alo_own{s:Sp}(hs:XA s)(hW:SpW s){x:Itm}(hx:JN s x){r d:Nat}(hr:r<=15)(hd:d<=32)(hf:exN s x.i ((1+r+d:Nat):Int)<=(Qj s.fs).length) :
  XA (QbU s x r d)/\SpW (QbU s x r d)/\JN (QbU s x r d) (aloX s x r d):=by
 obtain ⟨g1,g2,g3,g4,g5⟩:=hs.shp.z
 have hn:1<=((1+r+d:Nat):Int)/\((1+r+d:Nat):Int)<=48:=by omega
 have gk:=Qet hs hx.inc hn hf
 obtain ⟨w1,w2,w3⟩:=Jk hs.shp hx.inc hn
 have hwd:=hx.inc.wd
 have hlen:(x.fr++(Qj s.fs).take (exN s x.i ((1+r+d:Nat):Int))).length=x.fr.length+exN s x.i ((1+r+d:Nat):Int):=by
  rw [Wn,Ws,W7 hf]
 have hp:x.i.words.toNat+r+d < (x.fr++(Qj s.fs).take (exN s x.i ((1+r+d:Nat):Int))).length * szS s:=by rw [hlen];omega
 have hWg:SpW ⟨s.sh,s.ws,QX s x.i ((1+r+d:Nat):Int)⟩:=⟨hW.1,λf hf=>by
  obtain ⟨k,hk,rfl⟩:=Um hf
  have h64:=hs.shp.hi
  have hgl:(QX s x.i ((1+r+d:Nat):Int)).length=s.fs.length:=gk.len
  rcases gk.sp.fm k hk with h | h
  ·obtain ⟨a,b,c,_⟩:=h
   rw [a,b,c]
   unfold I64
   omega
  ·obtain ⟨⟨a,b,c,d1,d2,d3⟩,e1,e2,_⟩:=h
   have e2:_ < ((QX s x.i ((1+r+d:Nat):Int)).length:Int):=e2
   unfold I64
   omega⟩
 obtain ⟨q1,q2⟩:=ini_sp gk.sp hWg gk.inc.ch gk.inc.nd gk.inc.own (p:=x.i.words.toNat) hp hr hd
 refine ⟨q1,q2,?_,?_⟩
 ·have:=gk.inc
  exact { this.toIncC with wd:=⟨this.wd.1,by show _<=((QbU s x r d).ws.length:Int);rw [show (QbU s x r d).ws.length=s.ws.length from QdO ..];exact this.wd.2⟩,len:=this.len }
 ·have hroom:=hx.room hs.shp
  show Lay (szS s) (QbU s x r d).ws (aloX s x r d).fr 0 (x.os++[(r,d)]) (x.i.words+((1+r+d:Nat):Int)).toNat
  rw [show (x.i.words+((1+r+d:Nat):Int)).toNat=x.i.words.toNat+1+r+d by omega]
  refine Lay.snoc hr hd (hx.lay.congr λk _ hk=>⟨ZO Oo Oo,?_⟩) ?_
  ·have:=Qbm (s:=⟨s.sh,s.ws,QX s x.i ((1+r+d:Nat):Int)⟩) gk.sp.shp gk.inc.ch gk.inc.own (p:=x.i.words.toNat) hp (x:=adr (szS s) x.fr k) λj hj e=>by
    rw [<- ZO (l:=(Qj s.fs).take (exN s x.i ((1+r+d:Nat):Int))) (show 0 < szS s by omega) (show k < x.fr.length * szS s by omega)] at e
    have:=QaS (show 0 < szS s by omega) gk.inc.nd (show k < _ * szS s by omega) (show x.i.words.toNat+j < _ * szS s by omega) e
    omega
   exact this
  ·exact iniW_hd (s:=⟨s.sh,s.ws,QX s x.i ((1+r+d:Nat):Int)⟩) gk.sp.shp gk.inc.ch gk.inc.nd gk.inc.own (p:=x.i.words.toNat) hp
theorem alo_inv{s:Sp}{A B:List Itm}{x:Itm}(h:Qa7 s (A++x :: B)){r d:Nat}(hr:r<=15)(hd:d<=32)(hf:exN s x.i ((1+r+d:Nat):Int)<=(Qj s.fs).length):Qa7 (QbU s x r d) (A++aloX s x r d :: B):=by
 have hs:=h.ok
 obtain ⟨g1,g2,g3,g4,g5⟩:=hs.shp.z
 have hx:=h.each x Os
 have hn:1<=((1+r+d:Nat):Int)/\((1+r+d:Nat):Int)<=48:=by omega
 have gk:=Qet hs hx.inc hn hf
 obtain ⟨q1,q2,q3⟩:=alo_own hs h.w hx hr hd hf
 have hsq:(aloX s x r d).i.seq=x.i.seq:=gk.same.2.1
 have hne:∀ y,y∈A\/y∈B->x.i.seq≠y.i.seq:=λy hy=>by
  have hp:=WV.1 h.seqs
  rcases hy with hy | hy
  ·exact λe=>hp.2.2 y hy x Os e.symm
  ·exact (Vf.1 hp.2.1).1 y hy
 have hlen:(QX s x.i ((1+r+d:Nat):Int)).length=s.fs.length:=gk.len
 refine ⟨q1,q2,λy hy=>?_,?_,λk hk ho=>?_⟩
 ·have hy2:y=aloX s x r d\/y∈A\/y∈B:=by
   rcases Wk.1 hy with h1 | h1
   ·exact .inr (.inl h1)
   ·rcases Wv.1 h1 with h2 | h2
    ·exact .inl h2
    ·exact .inr (.inr h2)
  rcases hy2 with rfl | hy2
  ·exact q3
  ·have hyI:=h.each y (by rcases hy2 with h1 | h1 <;> simp [h1])
   have hney:=hne y hy2
   have hdis:=hx.inc.toIncC.disj hyI.inc.toIncC hney
   have notin:∀ k∈y.fr,k∉x.fr/\k∉(Qj s.fs).take (exN s x.i ((1+r+d:Nat):Int)):=λk hk=>⟨λe=>hdis k e hk,λe=>by
    obtain ⟨k1,k2⟩:=Qbo (Vy e)
    exact hyI.inc.own k hk k1 k2⟩
   have hsame:∀ k (h1:k < s.fs.length) (h2:k < (QX s x.i ((1+r+d:Nat):Int)).length),k∈y.fr->(QX s x.i ((1+r+d:Nat):Int))[k]=s.fs[k]:=λk h1 h2 hk=>gk.other k h1 h2 (notin k hk).1 (notin k hk).2
   refine ⟨⟨⟨hyI.inc.sq,hyI.inc.bl,?_,hyI.inc.nd,λk hk=>?_,λk hk hky=>?_,hyI.inc.first,hyI.inc.last⟩,⟨hyI.inc.wd.1,?_⟩,hyI.inc.len⟩,?_⟩
   ·exact hyI.inc.ch.congr hlen λk hk a b=>by rw [hsame k a b hk]
   ·have hk:k < (QX s x.i ((1+r+d:Nat):Int)).length:=hk
    have hk1:k < s.fs.length:=by omega
    by_cases hky:k∈y.fr
    ·show (QX s x.i ((1+r+d:Nat):Int))[k].ow=_<->_
     rw [hsame k hk1 hk hky]
     exact hyI.inc.ow k hk1
    ·refine ⟨λe=>?_,λe=>absurd e hky⟩
     exfalso
     by_cases hkx:k∈x.fr++(Qj s.fs).take (exN s x.i ((1+r+d:Nat):Int))
     ·have:=(gk.inc.ow k hk).2 hkx
      rw [gk.same.2.1] at this
      exact hney (this.symm.trans e)
     ·rw [Wk,not_or] at hkx
      have h3:=gk.other k hk1 hk hkx.1 hkx.2
      have e:(QX s x.i ((1+r+d:Nat):Int))[k].ow=y.i.seq:=e
      rw [h3] at e
      exact hky ((hyI.inc.ow k hk1).1 e)
   ·have hk:k < (QX s x.i ((1+r+d:Nat):Int)).length:=hk
    show (QX s x.i ((1+r+d:Nat):Int))[k].st=_
    rw [hsame k Oo hk hky]
    exact hyI.inc.st k Oo hky
   ·show _<=((QbU s x r d).ws.length:Int)
    rw [show (QbU s x r d).ws.length=s.ws.length from QdO ..]
    exact hyI.inc.wd.2
   ·have hroom:=hyI.room hs.shp
    refine hyI.lay.congr λk _ hk=>⟨rfl,?_⟩
    obtain ⟨w1,w2,w3⟩:=Jk hs.shp hx.inc hn
    have hwd:=hx.inc.wd
    have hlen2:(x.fr++(Qj s.fs).take (exN s x.i ((1+r+d:Nat):Int))).length=x.fr.length+exN s x.i ((1+r+d:Nat):Int):=by
     rw [Wn,Ws,W7 hf]
    have hp:x.i.words.toNat+r+d < (x.fr++(Qj s.fs).take (exN s x.i ((1+r+d:Nat):Int))).length * szS s:=by rw [hlen2];omega
    exact Qbm (s:=⟨s.sh,s.ws,QX s x.i ((1+r+d:Nat):Int)⟩) gk.sp.shp gk.inc.ch gk.inc.own (p:=x.i.words.toNat) hp (x:=adr (szS s) y.fr k) λj hj e=>by
     refine Qdg (show 0 < szS s by omega) (fr:=y.fr) (fr':=x.fr++(Qj s.fs).take (exN s x.i ((1+r+d:Nat):Int))) (λk hk hk2=>?_) (show k < _ * szS s by omega) (show x.i.words.toNat+j < _ * szS s by omega) e
     rcases Wk.1 hk2 with h1 | h1
     ·exact (notin k hk).1 h1
     ·exact (notin k hk).2 h1
 ·have hp:=WV.1 h.seqs
  have hc:=Vf.1 hp.2.1
  refine WV.2 ⟨hp.1,Vf.2 ⟨λy hy=>by rw [hsq];exact hc.1 y hy,hc.2⟩,λa ha b hb=>?_⟩
  rcases Wv.1 hb with rfl | hb
  ·rw [hsq];exact hp.2.2 a ha x Os
  ·exact hp.2.2 a ha b (by simp [hb])
 ·have hk:k < (QX s x.i ((1+r+d:Nat):Int)).length:=hk
  by_cases hkx:k∈x.fr++(Qj s.fs).take (exN s x.i ((1+r+d:Nat):Int))
  ·exact ⟨aloX s x r d,Os,hkx⟩
  ·rw [Wk,not_or] at hkx
   have h3:=gk.other k Oo hk hkx.1 hkx.2
   have ho:¬ (QX s x.i ((1+r+d:Nat):Int))[k].ow = -1:=ho
   rw [h3] at ho
   obtain ⟨y,hy,hky⟩:=h.all k Oo ho
   rcases Wk.1 hy with h1 | h1
   ·exact ⟨y,by simp [h1],hky⟩
   ·rcases Wv.1 h1 with rfl | h2
    ·exact absurd hky hkx.1
    ·exact ⟨y,by simp [h2],hky⟩
def obs:Nat->List (Nat×Nat)->List (Nat×Nat×Nat)
 | _,[]=>[]
 | p,(r,d) :: l=>(p,r,d) :: obs (p+1+r+d) l
theorem obs_snoc{z:Nat}{ws:List Int}{fr:List Nat}{r d:Nat}:∀ {l:List (Nat×Nat)} {p q:Nat},Lay z ws fr p l q->obs p (l++[(r,d)])=obs p l++[(q,r,d)]
 | [],p,q,h=>by
  have h:p=q:=h
  subst h
  rfl
 | (r',d') :: l,p,q,h=>by
  show (p,r',d') :: obs _ (l++[(r,d)])=(p,r',d') :: (obs _ l++[(q,r,d)])
  rw [obs_snoc h.2.2.2]
theorem Lay.get{z:Nat}{ws:List Int}{fr:List Nat}:∀ {l:List (Nat×Nat)} {p q:Nat},Lay z ws fr p l q->∀ o∈obs p l,p<=o.1/\o.1+1+o.2.1+o.2.2<=q/\o.2.1<=15/\o.2.2<=32/\ws[adr z fr o.1]?=some (hdW o.2.1 o.2.2)
 | [],p,q,h,o,ho=>by cases ho
 | (r,d) :: l,p,q,h,o,ho=>by
  obtain ⟨h1,h2,h3,h4⟩:=h
  rcases Wv.1 ho with rfl | ho
  ·exact ⟨Wo _,h4.le,h1,h2,h3⟩
  ·obtain ⟨k1,k2,k3⟩:=h4.get o ho
   exact ⟨Oo,k2,k3⟩
def adrs(s:Sp)(x:Itm):List Int:=(obs 0 x.os).map λ(o:Nat×Nat×Nat)=>((adr (szS s) x.fr o.1:Nat):Int)
theorem Qej{s:Sp}(hs:XA s){fr:List Nat}(hc:Chn s.fs fr)(ho:Own s.fs fr){p r d:Nat}(hp:p+r+d < fr.length * szS s)(hr:r<=15)(hd:d<=32)(hw:s.ws[adr (szS s) fr p]?=some (hdW r d)) :
  QN s ((adr (szS s) fr p:Nat):Int)=⟨r,d,0⟩/\ShapeR s ((adr (szS s) fr p:Nat):Int)=⟨r,d,0⟩:=by
 have h1:QN s ((adr (szS s) fr p:Nat):Int)=⟨r,d,0⟩:=LookR_mk (by
   have:=go_k (k:=0) hs.shp hc ho (p:=p) Oo
   exact congrArg Prod.snd this) (Xy hw) (by unfold Qc5;omega) (by
   rw [show (r:Int)+(d:Int)=((r+d:Nat):Int) by push_cast;rfl,go_k hs.shp hc ho Oo])
 exact ⟨h1,by rw [ShapeR_t hs];exact h1⟩
theorem shift_first{s:Sp}(hs:Qbs s){f:Int}(hf:0<=f/\f < s.fs.length):wu s.sh=s.sh/\0<=s.sh/\Qcq .i64 f s.sh=f * szS s/\0<=f * szS s/\f * szS s<=16384:=by
 obtain ⟨g1,g2,g3,g4,g5⟩:=hs.z
 have h64:=hs.hi
 obtain ⟨e,he⟩:∃ e:Nat,s.sh=e:=⟨s.sh.toNat,Oo⟩
 have hb:0<=f * (szS s:Int)/\f * (szS s:Int)<=16384:=by
  refine ⟨Yk hf.1 Oo,?_⟩
  have h1:f * (szS s:Int)<=(64:Int) * (szS s:Int):=V1 Oo Oo
  have h2:(64:Int) * (szS s:Int)<=64 * 256:=by omega
  omega
 refine ⟨Jd Oo,g1,?_,hb.1,hb.2⟩
 have e5:(2:Int) ^ e=szS s:=by rw [<- g5,he,Wc]
 rw [he,shl_pow Oo (by rw [e5];omega),e5]
theorem first_adr{fs:List Fe}{i:Inc}{fr:List Nat}(h:IncC fs i fr)(h0:0 < fr.length)(z:Nat):0<=i.first/\i.first < fs.length/\i.first * (z:Int)=((adr z fr 0:Nat):Int):=by
 cases fr with
 | nil=>simp at h0
 | cons f l =>
  have hf:i.first=(f:Int):=h.first
  have:=h.ch.lt f Os
  rw [hf]
  refine ⟨Oo,Oo,?_⟩
  unfold adr
  simp
theorem all_spec{s:Sp}(hs:XA s)(hW:SpW s){x:Itm}(hx:JN s x):JZ s x.i=some (adrs s x,0):=by
 obtain ⟨g1,g2,g3,g4,g5⟩:=hs.shp.z
 have hw:=hs.shp.small
 have hroom:=hx.room hs.shp
 have hwd:=hx.inc.wd
 obtain ⟨n,hn⟩:∃ n:Nat,x.i.words=n:=⟨x.i.words.toNat,Oo⟩
 have hlay:=hx.lay
 rw [hn,Wc] at hlay hroom
 unfold JZ
 refine (bndR_eq (b:=adrs s x) ?_).trans rfl
 refine loop_to (σ:=List Int×Int) (λst=>∃ (o1 o2:List (Nat×Nat)) (p:Nat),x.os=o1++o2/\Lay (szS s) s.ws x.fr 0 o1 p/\Lay (szS s) s.ws x.fr p o2 n/\st=((obs 0 o1).map (λ(o:Nat×Nat×Nat)=>((adr (szS s) x.fr o.1:Nat):Int)),(p:Int))/\o1.length<=p) (λst=>n - st.2.toNat) ⟨[],x.os,0,rfl,rfl,hlay,rfl,Wo _⟩ ?_
 rintro st ⟨o1,o2,p,h1,h2,h3,rfl,h5⟩
 have hle:=h3.le
 by_cases hp:p < n
 ·refine .inl ?_
  cases o2 with
  | nil=>have h3:p=n:=h3;omega
  | cons o l =>
   obtain ⟨r,d⟩:=o
   obtain ⟨k1,k2,k3,k4⟩:=h3
   have hle2:=k4.le
   have hfr:0 < x.fr.length:=by
    rcases Ue x.fr.length with h0 | h0
    ·rw [h0] at hroom;omega
    ·exact h0
   obtain ⟨f1,f2,f3⟩:=first_adr hx.inc.toIncC hfr (szS s)
   obtain ⟨s1,s2,s3,s4,s5⟩:=shift_first hs.shp ⟨f1,f2⟩
   have hgo:=go_k (k:=p) hs.shp hx.inc.ch hx.inc.own (p:=0) Oo
   rw [Vs] at hgo
   obtain ⟨l1,_⟩:=Qej hs hx.inc.ch hx.inc.own (p:=p) (r:=r) (d:=d) Oo k1 k2 k3
   have hpl:=Jt hs.shp hx.inc.ch.lt (show p < x.fr.length * szS s by omega)
   have hg:QB s (Qcq .i64 x.i.first s.sh) (p:Int)=some (((adr (szS s) x.fr p:Nat):Int),0):=by
    rw [s3,go_c hs.shp (Z1 hs.fm) (by unfold I64;omega) (by unfold I64;omega),f3,hgo]
   have hl:Q4 s ((adr (szS s) x.fr p:Nat):Int)=some ((r:Int),(d:Int),0):=by
    rw [look_c hs.shp (Z1 hs.fm) hW (by unfold I64;omega),l1]
   have hol:(obs 0 o1).length=o1.length:=by
    have:∀ (l:List (Nat×Nat)) (p:Nat),(obs p l).length=l.length:=by
     intro l
     induction l with
     | nil=>intro p;rfl
     | cons o l ih=>intro p;obtain ⟨a,b⟩:=o;show (obs _ l).length+1=_;rw [ih];rfl
    exact this o1 0
   dsimp only
   rw [if_pos (by rw [hn];omega),s1,if_pos s2,hg,WZ,hl,WZ]
   dsimp only
   have e1:w64 (w64 (w64 ((p:Int)+1)+r)+d)=((p+1+r+d:Nat):Int):=by rw [Qd (n:=(p:Int)+1) Oo,Qd (n:=(p:Int)+1+r) Oo,Qd Oo];push_cast;rfl
   have e2:w64 ((p:Int)+w64 (w64 (1+(r:Int))+d))=((p+1+r+d:Nat):Int):=by rw [Qd (n:=1+(r:Int)) Oo,Qd (n:=1+(r:Int)+d) Oo,Qd Oo];push_cast;omega
   rw [if_pos rfl,e1,if_neg (by rw [hn];omega),if_pos (by simp only [Wb,WP,VL,hol];omega),e2]
   refine ⟨_,rfl,⟨o1++[(r,d)],l,p+1+r+d,by rw [h1,WX];rfl,h2.snoc k1 k2 k3,k4,?_,by rw [Wn,WE];omega⟩,by show n - (((p+1+r+d:Nat):Int)).toNat < n - ((p:Nat):Int).toNat;omega⟩
   rw [obs_snoc h2,WF]
   rfl
 ·refine .inr ?_
  dsimp only
  rw [if_neg (by rw [hn];omega)]
  have hpn:p=n:=by omega
  subst hpn
  cases o2 with
  | nil =>
   rw [VQ] at h1
   subst h1
   rfl
  | cons o l =>
   obtain ⟨r,d⟩:=o
   have:=h3.2.2.2.le
   omega
theorem Qeq{α:Type}{p q:Prop}[Decidable p][Decidable q]{x y:α}(h:p<->q):(if p then x else y)=if q then x else y:=by
 by_cases k:p
 ·rw [if_pos k,if_pos (h.1 k)]
 ·rw [if_neg k,if_neg λc=>k (h.2 c)]
theorem Qex{α γ:Type}(g:γ->α->γ):∀ (l:List (List α)) (t:γ),l.flatten.foldl g t=l.foldl (λt a=>a.foldl g t) t
 | [],t=>rfl
 | a :: l,t=>by rw [Va,Uz];exact Qex g l _
def sumW(l:List Inc):Int:=l.foldl (λ(n:Int) x=>n+x.words) 0
def WdIn(B:List (List Inc)):Prop:=∀ q∈B,∀ x∈q,0<=x.words/\x.words<=16384
theorem words11_c{B:List (List Inc)}(h:BSz B)(hw:WdIn B):X7 B=some (sumW B.flatten):=by
 have h1:=h.1
 refine Gd.eq ?_
 unfold X7
 refine Gd.bind (P:=λb=>b=sumW B.flatten) ?_ λb hb=>.some hb
 unfold sumW
 rw [Qex]
 refine Gd.fold B (λ(t:Int) i=>(t,i)) (λt q=>q.foldl (λ(n:Int) x=>n+x.words) t) 0 (λi t=>0<=t/\t<=163840000 * i) rfl (λ_ _=>rfl) Oo Oo (λi hi t ht=>?_) (λ_=>rfl)
 have h2:=h.2 _ (Wd hi)
 have key:∀ (l:List Inc) (t:Int),(∀ x∈l,0<=x.words/\x.words<=16384)->t<=l.foldl (λ(n:Int) x=>n+x.words) t/\l.foldl (λ(n:Int) x=>n+x.words) t<=t+16384 * l.length:=by
  intro l
  induction l with
  | nil=>intro t _;simp
  | cons a l ih =>
   intro t h
   have k1:=h a (Wz ..)
   have k2:=ih (t+a.words) λx hx=>h x (Wm _ hx)
   rw [VP,WP]
   omega
 have hk:=key B[i] t (hw _ (Wd hi))
 refine ⟨Oo,?_⟩
 refine Gd.bind (P:=λb=>b=B[i].foldl (λ(n:Int) x=>n+x.words) t) ?_ λb hb=>.some (by rw [hb])
 refine .atN hi ?_
 refine Gd.fold B[i] (λ(t:Int) i=>(t,i)) (λ(n:Int) x=>n+x.words) t (λj u=>t<=u/\u<=t+16384 * j) rfl (λ_ _=>rfl) Oo Oo (λj hj u hu=>?_) (λ_=>rfl)
 have k1:=hw _ (Wd hi) _ (Wd hj)
 refine ⟨Oo,?_⟩
 refine .atN hj (.some ?_)
 dsimp only
 rw [Qd (n:=u+B[i][j].words) Oo]
def largF(s:Sp)(l:List Inc):Int:=l.foldl (λ(n:Int) x=>max n (clN s x.words)) 0
theorem largest_c{s:Sp}(hs:Qcg s.sh){B:List (List Inc)}(h:BSz B)(hw:WdIn B):Z8 s B=some (largF s B.flatten):=by
 have h1:=h.1
 refine Gd.eq ?_
 unfold Z8
 refine Gd.bind (P:=λb=>b=largF s B.flatten) ?_ λb hb=>.some hb
 unfold largF
 rw [Qex]
 refine Gd.fold B (λ(t:Int) i=>(t,i)) (λt q=>q.foldl (λ(n:Int) x=>max n (clN s x.words)) t) 0 (λ_ _=>True) rfl (λ_ _=>rfl) Oo trivial (λi hi t ht=>⟨trivial,?_⟩) (λ_=>rfl)
 have h2:=h.2 _ (Wd hi)
 refine Gd.bind (P:=λb=>b=B[i].foldl (λ(n:Int) x=>max n (clN s x.words)) t) ?_ λb hb=>.some (by rw [hb])
 refine .atN hi ?_
 refine Gd.fold B[i] (λ(t:Int) i=>(t,i)) (λ(n:Int) x=>max n (clN s x.words)) t (λ_ _=>True) rfl (λ_ _=>rfl) Oo trivial (λj hj u hu=>⟨trivial,?_⟩) (λ_=>rfl)
 have k1:=hw _ (Wd hi) _ (Wd hj)
 exact .atN hj (.call (Qaq hs (by unfold I64;omega)) (.some rfl))
theorem size_c{s:Sp}(hs:Qcg s.sh):JA s=some (szS s:Int):=by
 refine Gd.eq ?_
 unfold JA
 refine .call (rshift_c _) (.pos (Qc3 hs) (.pos (wu_sh hs) (.some ?_)))
 exact sh_1 hs
theorem open_c{s:Sp}(hs:Qcg s.sh)(i:Inc)(n:Int):XN s i n=some (decide (n=0) || decide (i.words < w64 (n * (szS s:Int)))):=by
 refine Gd.eq ?_
 unfold XN
 refine .ite (λh=>.some (by simp [h])) λh=>.call (size_c hs) (.some (by simp [h]))
theorem used_c{s:Sp}(h:s.fs.length<=65536):Jz s=some ((s.fs.length:Int) - (Qj s.fs).length):=by
 have h1:(Qj s.fs).length<=s.fs.length:=by
  have:=WN (isFr s.fs) (List.range s.fs.length)
  rw [WM] at this
  exact this
 unfold Jz
 rw [free_ok s h,WZ,Wb,Qd Oo]
def JT(fs:List Fe)(q:Int):List Fe:=fs.map λf=>if f.ow=q then feF else f
def Qa6(z:Nat)(fs:List Fe)(q:Int)(ws:List Int):List Int:=ws.mapIdx λa w=>if isOw fs q (a / z)=true then 0 else w
theorem clear_c{s:Sp}(hs:Qbs s)(q:Int):∃ n,QY s q=some (n,Qa6 (szS s) s.fs q s.ws,JT s.fs q):=by
 obtain ⟨g1,g2,g3,g4,g5⟩:=XC hs.sh
 have h64:=hs.hi
 have hwl:=hs.wl
 have hmx:s.fs.length * szS s<=64 * 256:=Uh h64 g4
 suffices h:Gd (λr=>∃ n:Int,r=(n,Qa6 (szS s) s.fs q s.ws,JT s.fs q)) (QY s q) by
  obtain ⟨r,h1,n,rfl⟩:=h
  exact ⟨n,h1⟩
 unfold QY
 refine Gd.bind (P:=λb:List Int×List Fe×Int=>b.1=Qa6 (szS s) s.fs q s.ws/\b.2.1=JT s.fs q) ?_ λb hb=>.some ⟨b.2.2,by rw [hb.1,hb.2]⟩
 refine Gd.for s.fs.length (λ(t:List Int×List Fe×Int) i=>(t.1,t.2.1,t.2.2,i)) (λi t=>t.1=(s.ws.mapIdx λa w=>if a / szS s < i/\isOw s.fs q (a / szS s)=true then 0 else w)/\t.2.1=(s.fs.mapIdx λk f=>if k < i/\f.ow=q then feF else f)) (s.ws,s.fs,0) rfl (λ_ _=>rfl) Oo
  ⟨?_,?_⟩ (λi hi t ht=>?_) (λt ht=>?_)
 ·dsimp only
  apply VF
  ·simp
  ·intro a h1 h2;simp
 ·dsimp only
  apply VF
  ·simp
  ·intro a h1 h2;simp
 ·obtain ⟨t1,t2⟩:=ht
  have hl2:t.2.1.length=s.fs.length:=by rw [t2];simp
  have hl1:t.1.length=s.ws.length:=by rw [t1];simp
  have hti:t.2.1[i]' Oo=s.fs[i]:=by simp [t2]
  refine Gd.bind (P:=λb:List Int×List Fe×Int=>b.1=(s.ws.mapIdx λa w=>if a / szS s < i+1/\isOw s.fs q (a / szS s)=true then 0 else w)/\b.2.1=(s.fs.mapIdx λk f=>if k < i+1/\f.ow=q then feF else f)) ?_ λb hb=>.some (.inl ⟨(b.1,b.2.1,b.2.2),rfl,hb⟩)
  refine .atN (l:=t.2.1) Oo ?_
  have hz:(i+1) * szS s=i * szS s+szS s:=VA _ _
  have hzl:(i+1) * szS s<=s.fs.length * szS s:=WG _ hi
  refine .ite (λhq=>?_) λhq=>.some ⟨?_,?_⟩
  ·refine .pos (wu_sh hs.sh) ?_
   have e1:w64 ((i:Int)+1)=((i+1:Nat):Int):=Qd Oo
   dsimp only
   rw [e1,shl_k hs.sh i rfl Oo,shl_k hs.sh (i+1) rfl Oo]
   have hq:s.fs[i].ow=q:=by rw [<- hti];exact hq
   refine Gd.loop (λx:List Int×Int=>∃ a:Nat,x.2=a/\i * szS s<=a/\a<=(i+1) * szS s/\x.1=(s.ws.mapIdx λb w=>if (b / szS s < i\/(i * szS s<=b/\b < a))/\isOw s.fs q (b / szS s)=true then 0 else w)) _ (λx=>(i+1) * szS s - x.2.toNat) ⟨i * szS s,rfl,Wo _,Oo,?_⟩ ?_
   ·dsimp only
    rw [t1]
    apply VF
    ·simp
    ·intro b h1 h2
     simp only [Vm]
     have:¬ (i * szS s<=b/\b < i * szS s):=by omega
     simp [this]
   ·rintro ⟨x1,x2⟩ ⟨a,rfl,a1,a2,rfl⟩
    dsimp only
    refine .ite (λhlt=>?_) λhlt=>.out ⟨?_,?_⟩
    ·have hal:a < s.ws.length:=by omega
     have e2:w64 ((a:Int)+1)=((a+1:Nat):Int):=Qd Oo
     refine .atN (by simp;exact hal) ?_
     rw [e2,Wc]
     refine .go ⟨a+1,rfl,Oo,Oo,?_⟩ (by dsimp only;omega)
     have hdiv:a / szS s=i:=UH Oo Oo
     apply VF
     ·simp
     ·intro b h1 h2
      simp only [Ww,V2] at h1 h2
      by_cases e:a=b
      ·subst e
       rw [Ux,Vm,if_pos]
       refine ⟨.inr ⟨a1,Oo⟩,?_⟩
       rw [hdiv,isOw_at hi,hq];simp
      ·rw [VG e,Vm,Vm]
       refine Qeq (and_congr_left λ_=>or_congr_right (and_congr_right λ_=>?_))
       omega
    ·have ea:a=(i+1) * szS s:=by omega
     subst ea
     dsimp only
     apply VF
     ·simp
     ·intro b h1 h2
      simp only [Vm]
      refine Qeq (and_congr_left λ_=>?_)
      have d1:=VH (x:=b) (y:=i) (show 0 < szS s by omega)
      have d2:=VH (x:=b) (y:=i+1) (show 0 < szS s by omega)
      omega
    ·dsimp only
     rw [Wc,t2]
     apply VF
     ·simp
     ·intro k h1 h2
      simp only [Ww,V2] at h1 h2
      by_cases e:i=k
      ·subst e
       rw [Ux,Vm,if_pos ⟨Oo,hq⟩]
      ·rw [VG e,Vm,Vm]
       exact Qeq (and_congr_left λ_=>by omega)
  ·have hq:¬ s.fs[i].ow=q:=by rw [<- hti];exact hq
   dsimp only
   rw [t1]
   apply VF
   ·simp
   ·intro b h1 h2
    simp only [Vm]
    refine Qeq ?_
    constructor
    ·exact λh=>⟨Oo,h.2⟩
    ·intro h
     refine ⟨?_,h.2⟩
     by_cases e:b / szS s=i
     ·rw [e,isOw_at hi] at h
      exact absurd (by simpa using h.2) hq
     ·omega
  ·have hq:¬ s.fs[i].ow=q:=by rw [<- hti];exact hq
   dsimp only
   rw [t2]
   apply VF
   ·simp
   ·intro k h1 h2
    simp only [V2] at h1
    simp only [Vm]
    refine Qeq ?_
    constructor
    ·exact λh=>⟨Oo,h.2⟩
    ·intro h
     refine ⟨?_,h.2⟩
     by_cases e:k=i
     ·subst e;exact absurd h.2 hq
     ·omega
 ·obtain ⟨t1,t2⟩:=ht
  dsimp only
  rw [t1,t2]
  refine ⟨?_,?_⟩
  ·unfold Qa6
   apply VF
   ·simp
   ·intro a h1 h2
    simp only [V2] at h1
    simp only [Vm]
    refine Qeq (and_iff_right ?_)
    exact (VH Oo).2 Oo
  ·unfold JT
   apply VF
   ·simp
   ·intro k h1 h2
    simp only [V2] at h1
    simp only [Vm,W5]
    exact Qeq (and_iff_right h1)
structure EvS where
 s:Sp
 to:Inc
 mv:List Mov
noncomputable def cpyW(s:Sp)(a b:Int):Nat->List Int->List Int
 | 0,l=>l
 | n+1,l=>(cpyW s a b n l).set (GoR s b (n:Int)).1.toNat (((cpyW s a b n l)[(GoR s a (n:Int)).1.toNat]?).getD 0)
@[simp] theorem QdU(s:Sp)(a b:Int)(l:List Int):∀ n,(cpyW s a b n l).length=l.length
 | 0=>rfl
 | n+1=>by unfold cpyW;rw [Ww];exact QdU s a b l n
theorem QeB(s:Sp)(a b:Int)(n:Nat)(l:List Int):cpyW s a b (n+1) l=(cpyW s a b n l).set (GoR s b (n:Int)).1.toNat (((cpyW s a b n l)[(GoR s a (n:Int)).1.toNat]?).getD 0):=rfl
noncomputable def mvS(st:EvS)(a:Int)(r d:Int):EvS :=
 let g:Sp:=⟨st.s.sh,st.s.ws,QX st.s st.to (1+r+d)⟩
 let j:=grw st.s st.to (1+r+d)
 let b:=(GoR g (j.first * 2 ^ st.s.sh.toNat) st.to.words).1
 ⟨⟨st.s.sh,(cpyW g a b (r+d+1).toNat st.s.ws).set a.toNat (fwdW b),g.fs⟩,j,st.mv++[⟨a,b⟩]⟩
noncomputable def mvA(st:EvS)(r d:Int):Int:=(GoR ⟨st.s.sh,st.s.ws,QX st.s st.to (1+r+d)⟩ ((grw st.s st.to (1+r+d)).first * 2 ^ st.s.sh.toNat) st.to.words).1
noncomputable def mv1(l:List Inc)(st:EvS)(x:Int):EvS×Int:=open Classical in
 if QaY st.s l x then
  if (JH (wAt st.s (x - 1))).mv=true then (st,(JH (wAt st.s (x - 1))).a+1)
  else (mvS st (x - 1) (QN st.s (x - 1)).r (QN st.s (x - 1)).d,mvA st (QN st.s (x - 1)).r (QN st.s (x - 1)).d+1)
 else (st,x)
def evK(l:List Inc)(st:EvS):Qn:=⟨st.s,l,st.to,st.mv,0⟩
theorem grw_keep{s:Sp}(hs:XA s){i:Inc}{fr:List Nat}(hi:Qch s i fr){n:Int}(hn:1<=n/\n<=48)(hf:exN s i n<=(Qj s.fs).length){frx:List Nat}(hc:Chn s.fs frx)(ho:Own s.fs frx)(hd:∀ k∈frx,k∉fr) :
  Chn (QX s i n) frx/\Own (QX s i n) frx:=by
 have g:=Qet hs hi hn hf
 have key:∀ k∈frx,∀ (h:k < s.fs.length) (h':k < (QX s i n).length),(QX s i n)[k]=s.fs[k]:=λk hk h h'=>by
  refine g.other k h h' (hd k hk) λhm=>?_
  obtain ⟨_,h0⟩:=Qbo (Vy hm)
  exact ho k hk h h0
 refine ⟨hc.congr g.len λk hk h h'=>by rw [key k hk h h'],λk hk h=>?_⟩
 have h1:k < s.fs.length:=by rw [<- g.len];exact h
 rw [key k hk h1 h]
 exact ho k hk h1
structure SrcP(s:Sp)(fr:List Nat)(a:Int)(frx:List Nat)(p r d:Nat):Prop where
 a:a=((adr (szS s) frx p:Nat):Int)
 ch:Chn s.fs frx
 ow:Own s.fs frx
 dj:∀ k∈frx,k∉fr
 rm:p+r+d < frx.length * szS s
 r15:r<=15
 d32:d<=32
 hd:s.ws[adr (szS s) frx p]?=some (hdW r d)
structure MvP(l:List Inc)(st:EvS)(fr:List Nat)(x:Int):Prop where
 ok:XA st.s
 w:SpW st.s
 i:Qch st.s st.to fr
 u:U64 x
 ll:l.length<=1000000
 ml:st.mv.length<=100000
 obj:QaY st.s l x->(JH (wAt st.s (x - 1))).e=0/\((JH (wAt st.s (x - 1))).mv=false->∃ frx p r d,SrcP st.s fr (x - 1) frx p r d/\exN st.s st.to (1+(r:Int)+d)<=(Qj st.s.fs).length)
theorem SrcP.look{s:Sp}{fr:List Nat}{a:Int}{frx:List Nat}{p r d:Nat}(hs:XA s)(h:SrcP s fr a frx p r d):QN s a=⟨r,d,0⟩:=by
 rw [h.a]
 exact (Qej hs h.ch h.ow h.rm h.r15 h.d32 h.hd).1
theorem move_c{l:List Inc}{st:EvS}{fr:List Nat}{x:Int}(h:MvP l st fr x) :
  Q8 (evK l st) x=some ((mv1 l st x).2,evK l (mv1 l st x).1,(mv1 l st x).1.s.ws,(mv1 l st x).1.s.fs,(mv1 l st x).1.mv):=by
 obtain ⟨hs,hW,hi,hx,hll,hml,hobj⟩:=h
 have hwl:=XT hs
 have hnx:=Z1 hs.fm
 refine Gd.eq ?_
 unfold Q8 mv1
 refine .pos rfl (.call (QcO hs l Oo hx) ?_)
 refine .ite (λhw=>?_) λhw=>.some (by rw [if_neg λk=>hw (Qc3 k)];rfl)
 have hw:=ZI.1 hw
 rw [if_pos hw]
 obtain ⟨he,hl⟩:=hobj hw
 obtain ⟨⟨w0,w1⟩,w2⟩:=hw
 unfold U64 at hx
 have e1:w64 (wu (x - 1))=x - 1:=by rw [Jd (n:=x - 1) Oo,Qd Oo]
 have hxl:(x - 1).toNat < st.s.ws.length:=by omega
 have hu:U64 (wAt st.s (x - 1)):=wAt_u hW _
 have hdr:=DecR_rng hu
 show Gd _ (bndR ((at_ st.s.ws (w64 (wu (x - 1)))).bind _) _)
 rw [e1]
 refine Gd.bndR (P:=λz=>(z = .inl ()/\(JH (wAt st.s (x - 1))).mv=false)\/(z = .inr ((JH (wAt st.s (x - 1))).a+1,evK l st,st.s.ws,st.s.fs,st.mv)/\(JH (wAt st.s (x - 1))).mv=true)) ?_ (λ_ hP=>?_) (λr hP=>?_)
 ·refine .at Oo hxl ?_
  rw [<- wAt_at Oo hxl]
  refine .call (decode_c hu) (.pos he (.ite (λhm=>.some (.inr ⟨?_,hm⟩)) λhm=>.some (.inl ⟨rfl,by simpa using hm⟩)))
  dsimp only
  rw [Qd (n:=(JH (wAt st.s (x - 1))).a+1) Oo,Jd Oo]
  rfl
 ·obtain ⟨_,hm⟩ | ⟨h,_⟩:=hP
  ·rw [if_neg (by simp [hm])]
   obtain ⟨frx,p,r,d,src,hl2⟩:=hl hm
   have hlk:=src.look hs
   have r15:=src.r15
   have d32:=src.d32
   refine .call (look_c hs.shp hnx hW (by unfold I64;omega)) ?_
   rw [hlk]
   refine .pos rfl ?_
   dsimp only
   rw [Qd (n:=1+(r:Int)) Oo,Qd (n:=1+(r:Int)+d) Oo,Qd (n:=(r:Int)+d) Oo]
   have hn48:1<=1+(r:Int)+d/\1+(r:Int)+d<=48:=by omega
   have hgs:=grow_spec hs hi hn48
   rw [if_pos hl2] at hgs
   have hgk:=Qet hs hi hn48 hl2
   have hat:=hgk.at hs hi hn48 hl2
   have hb:mvA st r d=((adr (szS st.s) (fr++(Qj st.s.fs).take (exN st.s st.to (1+(r:Int)+d))) st.to.words.toNat:Nat):Int):=by unfold mvA;rw [hat]
   rw [<- hb] at hgs
   refine .call hgs (.pos hgk.len (.pos rfl ?_))
   dsimp only
   have hshp:Qbs ⟨st.s.sh,st.s.ws,QX st.s st.to (1+(r:Int)+d)⟩:=hgk.sp.shp
   have hnx2:=Z1 hgk.sp.fm
   have hwd:=hi.wd
   have hgi:st.to.words.toNat+1+r+d<=(fr++(Qj st.s.fs).take (exN st.s st.to (1+(r:Int)+d))).length * szS st.s:=by
    have:=(Jk hs.shp hi hn48).1
    rw [Wn,Ws,W7 hl2]
    omega
   have hgoB:∀ k:Nat,k<=r+d->GoR ⟨st.s.sh,st.s.ws,QX st.s st.to (1+(r:Int)+d)⟩ (mvA st r d) (k:Int)=(((adr (szS st.s) (fr++(Qj st.s.fs).take (exN st.s st.to (1+(r:Int)+d))) (st.to.words.toNat+k):Nat):Int),0):=λk hk=>by
    rw [hb]
    exact go_k (s:=⟨st.s.sh,st.s.ws,QX st.s st.to (1+(r:Int)+d)⟩) (k:=k) (p:=st.to.words.toNat) hshp hgk.inc.toIncC.ch hgk.inc.toIncC.own (by show _ < _ * szS st.s;omega)
   obtain ⟨hc2,ho2⟩:=grw_keep hs hi hn48 hl2 src.ch src.ow src.dj
   have hgoA:∀ k:Nat,k<=r+d->GoR ⟨st.s.sh,st.s.ws,QX st.s st.to (1+(r:Int)+d)⟩ (x - 1) (k:Int)=(((adr (szS st.s) frx (p+k):Nat):Int),0):=λk hk=>by
    rw [src.a]
    exact go_k (s:=⟨st.s.sh,st.s.ws,QX st.s st.to (1+(r:Int)+d)⟩) (k:=k) (p:=p) hshp hc2 ho2 (by have:=src.rm;show _ < _ * szS st.s;omega)
   have hbl:mvA st r d < st.s.ws.length/\0<=mvA st r d:=by
    have h1:=hgoB 0 Oo
    have h2:=QeH (s:=⟨st.s.sh,st.s.ws,QX st.s st.to (1+(r:Int)+d)⟩) hshp hnx2 (a:=mvA st r d) (k:=((0:Nat):Int)) (by rw [h1])
    rw [h1] at h2
    dsimp only at h2
    rw [hb]
    simpa [and_comm] using h2
   refine Gd.bind (P:=λb=>b=cpyW ⟨st.s.sh,st.s.ws,QX st.s st.to (1+(r:Int)+d)⟩ (x - 1) (mvA st r d) (r+d+1) st.s.ws) ?_ λb hbb=>?_
   ·refine Gd.loop (λy:List Int×Int=>∃ k:Nat,y=(cpyW ⟨st.s.sh,st.s.ws,QX st.s st.to (1+(r:Int)+d)⟩ (x - 1) (mvA st r d) k st.s.ws,(k:Int))/\k<=r+d+1) _ (λy=>r+d+1 - y.2.toNat) ⟨0,rfl,W9 _⟩ ?_
    rintro y ⟨k,rfl,hk⟩
    dsimp only
    refine .ite (λhlt=>?_) λhlt=>.out (by rw [show k=r+d+1 by omega])
    have hcl:(cpyW ⟨st.s.sh,st.s.ws,QX st.s st.to (1+(r:Int)+d)⟩ (x - 1) (mvA st r d) k st.s.ws).length=st.s.ws.length:=by simp
    have hsc:Qbs ⟨st.s.sh,cpyW ⟨st.s.sh,st.s.ws,QX st.s st.to (1+(r:Int)+d)⟩ (x - 1) (mvA st r d) k st.s.ws,QX st.s st.to (1+(r:Int)+d)⟩:=⟨hshp.sh,hshp.lo,hshp.hi,by rw [hcl];exact hshp.wl⟩
    have eA:=GoR_ws (sh:=st.s.sh) (fs:=QX st.s st.to (1+(r:Int)+d)) (a:=x - 1) (k:=(k:Int)) hcl
    have eB:=GoR_ws (sh:=st.s.sh) (fs:=QX st.s st.to (1+(r:Int)+d)) (a:=mvA st r d) (k:=(k:Int)) hcl
    have kA:=hgoA k Oo
    have kB:=hgoB k Oo
    refine .call (go_c hsc hnx2 (by unfold I64;omega) (by unfold I64;omega)) (.call (go_c hsc hnx2 (by unfold I64;omega) (by unfold I64;omega)) ?_)
    rw [eA,eB]
    have rA:=QeH (s:=⟨st.s.sh,st.s.ws,QX st.s st.to (1+(r:Int)+d)⟩) hshp hnx2 (a:=x - 1) (k:=(k:Int)) (by rw [kA])
    have rB:=QeH (s:=⟨st.s.sh,st.s.ws,QX st.s st.to (1+(r:Int)+d)⟩) hshp hnx2 (a:=mvA st r d) (k:=(k:Int)) (by rw [kB])
    dsimp only at rA rB
    refine .at rA.1 (by rw [hcl];omega) (.at rB.1 (by rw [hcl];omega) ?_)
    rw [Qd (n:=(k:Int)+1) Oo]
    refine .go ⟨k+1,?_,Oo⟩ (by dsimp only;omega)
    rw [QeB,Wa (show (GoR ⟨st.s.sh,st.s.ws,QX st.s st.to (1+(r:Int)+d)⟩ (x - 1) (k:Int)).1.toNat < (cpyW ⟨st.s.sh,st.s.ws,QX st.s st.to (1+(r:Int)+d)⟩ (x - 1) (mvA st r d) k st.s.ws).length by rw [hcl];omega),Wy]
    push_cast
    rfl
   ·subst hbb
    refine .call (forward_c ⟨hbl.2,Oo⟩) ?_
    refine .at Oo (by rw [QdU];exact hxl) ?_
    refine .pos (XD (l:=st.mv) Oo Oo) (.some ?_)
    rw [Qd (n:=mvA st r d+1) Oo,Jd (n:=mvA st r d+1) Oo]
    have e3:((r:Int)+d+1).toNat=r+d+1:=by omega
    have e4:(mvS st (x - 1) r d)=⟨⟨st.s.sh,(cpyW ⟨st.s.sh,st.s.ws,QX st.s st.to (1+(r:Int)+d)⟩ (x - 1) (mvA st r d) (r+d+1) st.s.ws).set (x - 1).toNat (fwdW (mvA st r d)),QX st.s st.to (1+(r:Int)+d)⟩,grw st.s st.to (1+(r:Int)+d),st.mv++[⟨x - 1,mvA st r d⟩]⟩:=by
     unfold mvS
     dsimp only
     rw [e3]
     rfl
    rw [e4]
    rfl
  ·cases h
 ·obtain ⟨h,_⟩ | ⟨h,hm⟩:=hP
  ·cases h
  ·injection h with h
   rw [if_pos hm,h]
theorem pair_cases{α:Type}{R:α->α->Prop}:∀ {l:List α},l.Pairwise R->∀ x∈l,∀ y∈l,x=y\/R x y\/R y x
 | [],_,x,hx,_,_=>by cases hx
 | a :: l,h,x,hx,y,hy=>by
  obtain ⟨h1,h2⟩:=Vf.1 h
  rcases Wv.1 hx with e1 | m1
  ·rcases Wv.1 hy with e2 | m2
   ·exact .inl (e1.trans e2.symm)
   ·exact .inr (.inl (e1▸h1 y m2))
  ·rcases Wv.1 hy with e2 | m2
   ·exact .inr (.inr (e2▸h1 x m1))
   ·exact pair_cases h2 x m1 y m2
theorem obs_ge:∀ {l:List (Nat×Nat)} {p:Nat} {o:Nat×Nat×Nat},o∈obs p l->p<=o.1
 | [],p,o,h=>by cases h
 | (r,d) :: l,p,o,h=>by
  rcases Wv.1 h with rfl | h
  ·exact Wo _
  ·have:=obs_ge h;omega
theorem obs_sep:∀ {l:List (Nat×Nat)} {p:Nat} {o o':Nat×Nat×Nat},o∈obs p l->o'∈obs p l->o=o'\/o.1+1+o.2.1+o.2.2<=o'.1\/o'.1+1+o'.2.1+o'.2.2<=o.1
 | [],p,o,o',h,_=>by cases h
 | (r,d) :: l,p,o,o',h,h'=>by
  rcases Wv.1 h with rfl | h
  ·rcases Wv.1 h' with rfl | h'
   ·exact .inl rfl
   ·exact .inr (.inl (obs_ge h'))
  ·rcases Wv.1 h' with rfl | h'
   ·exact .inr (.inr (obs_ge h))
   ·exact obs_sep h h'
def nob:Nat->List (Nat×Nat×Nat)->List (Nat×Nat×Nat×Nat)
 | _,[]=>[]
 | p,(a,r,d) :: M=>(a,p,r,d) :: nob (p+1+r+d) M
def szM:List (Nat×Nat×Nat)->Nat
 | []=>0
 | (_,r,d) :: M=>1+r+d+szM M
theorem szM_snoc:∀ (M:List (Nat×Nat×Nat)) (a r d:Nat),szM (M++[(a,r,d)])=szM M+1+r+d
 | [],a,r,d=>by simp [szM]
 | (b,r',d') :: M,a,r,d=>by
  show 1+r'+d'+szM (M++[(a,r,d)])=1+r'+d'+szM M+1+r+d
  rw [szM_snoc M];omega
theorem nob_snoc:∀ (M:List (Nat×Nat×Nat)) (p a r d:Nat),nob p (M++[(a,r,d)])=nob p M++[(a,p+szM M,r,d)]
 | [],p,a,r,d=>by simp [nob,szM]
 | (b,r',d') :: M,p,a,r,d=>by
  show (b,p,r',d') :: nob (p+1+r'+d') (M++[(a,r,d)])=(b,p,r',d') :: (nob (p+1+r'+d') M++[(a,p+(1+r'+d'+szM M),r,d)])
  rw [nob_snoc M,show p+1+r'+d'+szM M=p+(1+r'+d'+szM M) by omega]
theorem QcU:∀ (M:List (Nat×Nat×Nat)) (p:Nat),(nob p M).length=M.length
 | [],p=>rfl
 | (b,r',d') :: M,p=>by show (nob _ M).length+1=_;rw [QcU M];rfl
theorem nob_fst:∀ (M:List (Nat×Nat×Nat)) (p:Nat),(nob p M).map (·.1)=M.map (·.1)
 | [],p=>rfl
 | (b,r',d') :: M,p=>by show b :: (nob _ M).map (·.1)=_;rw [nob_fst M];rfl
theorem Qed:∀ (M:List (Nat×Nat×Nat)) (p:Nat),∀ o∈nob p M,(o.1,o.2.2)∈M
 | [],p,o,h=>by cases h
 | (b,r',d') :: M,p,o,h=>by
  rcases Wv.1 h with rfl | h
  ·exact Wz ..
  ·exact Wm _ (Qed M _ o h)
theorem Jg:∀ (M:List (Nat×Nat×Nat)) (p:Nat),∀ o∈nob p M,p<=o.2.1/\o.2.1+1+o.2.2.1+o.2.2.2<=p+szM M
 | [],p,o,h=>by cases h
 | (b,r',d') :: M,p,o,h=>by
  rcases Wv.1 h with rfl | h
  ·exact ⟨Wo _,by show p+1+r'+d'<=p+(1+r'+d'+szM M);omega⟩
  ·have:=Jg M _ o h
   exact ⟨Oo,by show _<=p+(1+r'+d'+szM M);omega⟩
theorem nob_sep:∀ (M:List (Nat×Nat×Nat)) (p:Nat),(nob p M).Pairwise λo o'=>o.2.1+1+o.2.2.1+o.2.2.2<=o'.2.1
 | [],p=>.nil
 | (b,r',d') :: M,p=>by
  refine Vf.2 ⟨λo ho=>(Jg M _ o ho).1,nob_sep M _⟩
theorem obs_map:∀ (M:List (Nat×Nat×Nat)) (p:Nat),obs p (M.map (·.2))=(nob p M).map (·.2)
 | [],p=>rfl
 | (b,r',d') :: M,p=>by show (p,r',d') :: obs (p+1+r'+d') (M.map (·.2))=_;rw [obs_map M];rfl
theorem obs_append:∀ (l:List (Nat×Nat)) (m:List (Nat×Nat)) (p q:Nat) (z:Nat) (ws:List Int) (fr:List Nat),Lay z ws fr p l q->obs p (l++m)=obs p l++obs q m
 | [],m,p,q,z,ws,fr,h=>by cases h;rfl
 | (r,d) :: l,m,p,q,z,ws,fr,h=>by
  show (p,r,d) :: obs (p+1+r+d) (l++m)=(p,r,d) :: (obs (p+1+r+d) l++obs q m)
  rw [obs_append l m _ q z ws fr h.2.2.2]
def ObjZ(z:Nat)(L:List Itm)(a r d:Nat):Prop:=∃ x∈L,∃ p,(p,r,d)∈obs 0 x.os/\a=adr z x.fr p
def allO(z:Nat)(L:List Itm):List (Nat×Nat×Nat):=L.flatMap λx=>(obs 0 x.os).map λo=>(adr z x.fr o.1,o.2)
theorem objZ_iff{z:Nat}{L:List Itm}{a r d:Nat}:ObjZ z L a r d<->(a,r,d)∈allO z L:=by
 unfold ObjZ allO
 rw [U6]
 constructor
 ·rintro ⟨x,hx,p,hp,rfl⟩
  exact ⟨x,hx,Wj.2 ⟨(p,r,d),hp,rfl⟩⟩
 ·rintro ⟨x,hx,h⟩
  obtain ⟨⟨p,r',d'⟩,hp,e⟩:=Wj.1 h
  injection e with e1 e2
  injection e2 with e2 e3
  subst e2;subst e3
  exact ⟨x,hx,p,hp,e1.symm⟩
theorem sub_sum:∀ (M A:List (Nat×Nat×Nat)),M.Nodup->(∀ o∈M,o∈A)->szM M<=szM A
 | [],A,_,_=>W9 _
 | o :: M,A,hn,hs=>by
  obtain ⟨A1,A2,rfl⟩:=List.append_of_mem (hs o (Wz ..))
  have h1:=Uv.1 hn
  have h2:=sub_sum M (A1++A2) h1.2 λq hq=>by
   have:=hs q (Wm _ hq)
   rcases Wk.1 this with h | h
   ·exact We _ h
   ·rcases Wv.1 h with rfl | h
    ·exact absurd hq h1.1
    ·exact Wh _ h
  have e:∀ (A1 A2:List (Nat×Nat×Nat)),szM (A1++A2)=szM A1+szM A2:=by
   intro A1
   induction A1 with
   | nil=>intro A2;simp [szM]
   | cons a l ih=>intro A2;obtain ⟨a,r,d⟩:=a;show 1+r+d+szM (l++A2)=1+r+d+szM l+szM A2;rw [ih];omega
  rw [e] at h2 ⊢
  obtain ⟨a,r,d⟩:=o
  show 1+r+d+szM M<=szM A1+(1+r+d+szM A2)
  omega
theorem szM_append:∀ (A1 A2:List (Nat×Nat×Nat)),szM (A1++A2)=szM A1+szM A2
 | [],A2=>by simp [szM]
 | (a,r,d) :: l,A2=>by show 1+r+d+szM (l++A2)=1+r+d+szM l+szM A2;rw [szM_append l];omega
theorem szM_lay{z:Nat}{ws:List Int}{fr:List Nat}:∀ {l:List (Nat×Nat)} {p q:Nat},Lay z ws fr p l q->p+szM ((obs p l).map λo=>(adr z fr o.1,o.2))=q
 | [],p,q,h=>by show p+0=q;exact h
 | (r,d) :: l,p,q,h=>by
  have:=szM_lay h.2.2.2
  show p+(1+r+d+szM ((obs (p+1+r+d) l).map λo=>(adr z fr o.1,o.2)))=q
  omega
def sumN(C:List Itm):Nat:=(C.map λx=>x.i.words.toNat).sum
theorem szM_all{s:Sp}:∀ {C:List Itm},(∀ x∈C,JN s x)->szM (allO (szS s) C)=sumN C
 | [],_=>rfl
 | x :: C,h=>by
  have h1:=szM_all (C:=C) λy hy=>h y (Wm _ hy)
  have h2:=szM_lay (h x (Wz ..)).lay
  unfold allO at h1 ⊢
  rw [Yu,szM_append,h1]
  unfold sumN
  rw [W3,UI]
  omega
theorem cpyW_get{s:Sp}{a b:Int}{A B:Nat->Nat}{l:List Int}:∀ (n:Nat),(∀ k,k < n->(GoR s a (k:Int)).1.toNat=A k)->(∀ k,k < n->(GoR s b (k:Int)).1.toNat=B k)->(∀ k,k < n->A k < l.length)->(∀ k,k < n->B k < l.length) ->
  (∀ j k,j < n->k < n->B j=B k->j=k)->(∀ j k,j < n->k < n->A j≠B k) ->
  (∀ k,k < n->(cpyW s a b n l)[B k]?=l[A k]?)/\∀ x,(∀ k,k < n->x≠B k)->(cpyW s a b n l)[x]?=l[x]?
 | 0,_,_,_,_,_,_=>⟨λk h=>absurd h (Vo _),λx _=>rfl⟩
 | n+1,hA,hB,lA,lB,hi,hd=>by
  obtain ⟨h1,h2⟩:=cpyW_get n (λk h=>hA k Oo) (λk h=>hB k Oo) (λk h=>lA k Oo) (λk h=>lB k Oo) (λj k h1 h2=>hi j k Oo Oo) λj k h1 h2=>hd j k Oo Oo
  have hAn:(cpyW s a b n l)[A n]?=l[A n]?:=h2 _ λk hk=>hd n k Oo Oo
  rw [QeB,hA n Oo,hB n Oo,hAn,Wa (lA n Oo),Wy]
  refine ⟨λk hk=>?_,λx hx=>?_⟩
  ·by_cases e:B k=B n
   ·obtain rfl:=hi k n hk Oo e
    rw [WB (by rw [QdU];exact lB k Oo),Wa (lA k Oo)]
   ·rw [WA (λh=>e h.symm)]
    exact h1 k (by
     rcases Wq k n with h | h
     ·exact h
     ·exact absurd (by rw [show k=n by omega]) e)
  ·rw [WA (λh=>hx n Oo h.symm)]
   exact h2 x λk hk=>hx k Oo
theorem cpyW_all{s:Sp}{a b:Int}{p:Int->Prop}{l:List Int}(h:∀ x∈l,p x)(h0:p 0):∀ n,∀ x∈cpyW s a b n l,p x
 | 0=>h
 | n+1=>λx hx=>by
  rw [QeB] at hx
  rcases WR hx with hx | rfl
  ·exact cpyW_all h h0 n x hx
  ·cases hg:(cpyW s a b n l)[(GoR s a (n:Int)).1.toNat]? with
   | none=>exact h0
   | some y=>exact cpyW_all h h0 n y (Wp hg)
theorem IncC.keep{fs fs':List Fe}{i:Inc}{fr:List Nat}(h:IncC fs i fr)(hl:fs'.length=fs.length){D:Nat->Prop}(hd:∀ k (h:k < fs.length) (h':k < fs'.length),¬ D k->fs'[k]=fs[k])(hD:∀ k (h':k < fs'.length),D k->k∉fr/\fs'[k].ow≠i.seq):IncC fs' i fr:=by
 have hin:∀ k∈fr,∀ (h:k < fs.length) (h':k < fs'.length),fs'[k]=fs[k]:=λk hk h1 h2=>hd k h1 h2 λc=>(hD k h2 c).1 hk
 refine ⟨h.sq,h.bl,h.ch.congr hl λk hk h1 h2=>by rw [hin k hk h1 h2],h.nd,λk hk=>?_,λk hk hf=>?_,h.first,h.last⟩
 ·have h1:k < fs.length:=by omega
  by_cases c:D k
  ·have:=hD k hk c
   exact ⟨λe=>absurd e this.2,λe=>absurd e this.1⟩
  ·rw [hd k h1 hk c];exact h.ow k h1
 ·rw [hin k hf Oo hk];exact h.st k Oo hf
theorem adr_fr{z:Nat}{fr:List Nat}{p:Nat}(hz:0 < z)(hp:p < fr.length * z):adr z fr p / z∈fr:=by
 have h1:p / z < fr.length:=(VH hz).2 hp
 rw [(Qcf hz fr p).1,Wa h1]
 exact Wd h1
theorem Qen{fs:List Fe}{C:List Itm}(h:∀ x∈C,IncC fs x.i x.fr){k:Nat}:isC fs (C.map Itm.i) k=true<->∃ x∈C,k∈x.fr:=by
 rw [Qbl]
 constructor
 ·rintro ⟨hk,hm⟩
  rw [WS] at hm
  obtain ⟨x,hx,e⟩:=Wj.1 hm
  exact ⟨x,hx,((h x hx).ow k hk).1 e.symm⟩
 ·rintro ⟨x,hx,hm⟩
  have hk:=(h x hx).ch.lt k hm
  refine ⟨hk,?_⟩
  rw [WS]
  exact Wj.2 ⟨x,hx,(((h x hx).ow k hk).2 hm).symm⟩
noncomputable def srcA(s0:Sp)(a k:Nat):Nat:=(GoR s0 (a:Int) (k:Int)).1.toNat
def ImgP(s0:Sp)(C:List Itm)(mv:List Mov)(w v:Int):Prop:=(¬ QaY s0 (C.map Itm.i) w/\v=w)\/(QaY s0 (C.map Itm.i) w/\∃ m∈mv,m.frm=w - 1/\v=m.to+1)
theorem ImgP.mono{s0:Sp}{C:List Itm}{mv mv':List Mov}{w v:Int}(h:ImgP s0 C mv w v)(hs:∀ m∈mv,m∈mv'):ImgP s0 C mv' w v:=by
 rcases h with h | ⟨h,m,hm,k⟩
 ·exact .inl h
 ·exact .inr ⟨h,m,hs m hm,k⟩
def RefOk(s0:Sp)(C:List Itm)(w:Int):Prop:=QaY s0 (C.map Itm.i) w->∃ r d,ObjZ (szS s0) C (w - 1).toNat r d
def sumF(s:Sp)(C:List Itm):Int:=(C.map λx=>clN s x.i.words).sum
structure EvC(s0:Sp)(C K:List Itm)(T0:Itm):Prop where
 ok:XA s0
 w:SpW s0
 cs:∀ x∈C,JN s0 x
 ks:∀ x∈K,JN s0 x
 t0:JN s0 T0
 sqT:∀ x∈C++K,x.i.seq≠T0.i.seq
 sqK:∀ x∈C,∀ y∈K,x.i.seq≠y.i.seq
 sqC:∀ x∈C++K,∀ y∈C++K,x.i.seq=y.i.seq->x=y
 own:∀ k (h:k < s0.fs.length),¬ s0.fs[k].ow = -1->k∈T0.fr\/∃ x∈C++K,k∈x.fr
 need:sumF s0 C<=(Qj s0.fs).length
 refs:∀ x∈C,∀ p r d,(p,r,d)∈obs 0 x.os->∀ k,1<=k->k<=r->∀ w,s0.ws[adr (szS s0) x.fr (p+k)]?=some w->RefOk s0 C w
 len:C.length<=1000000
def Qee(z:Nat)(fr:List Nat)(p:Nat)(M:List (Nat×Nat×Nat)):List Mov:=(nob p M).map λo=>⟨(o.1:Int),((adr z fr o.2.1:Nat):Int)⟩
structure Jp(s0:Sp)(C K:List Itm)(T0:Itm)(sn sk:Nat)(st:EvS)(T:Itm)(M:List (Nat×Nat×Nat)):Prop where
 sh:st.s.sh=s0.sh
 wl:st.s.ws.length=s0.ws.length
 fl:st.s.fs.length=s0.fs.length
 ok:XA st.s
 w:SpW st.s
 to:st.to=T.i
 fr:∃ m,T.fr=T0.fr++(Qj s0.fs).take m/\Qj st.s.fs=(Qj s0.fs).drop m
 inc:Qch st.s T.i T.fr
 sq:T.i.seq=T0.i.seq/\T.i.belt=T0.i.belt/\T.i.words=((T0.i.words.toNat+szM M:Nat):Int)
 os:T.os=T0.os++M.map (·.2)
 mv:st.mv=Qee (szS s0) T.fr T0.i.words.toNat M
 oth:∀ x∈C++K,IncC st.s.fs x.i x.fr
 own:∀ k (h:k < st.s.fs.length),¬ st.s.fs[k].ow = -1->k∈T.fr\/∃ x∈C++K,k∈x.fr
 src:∀ o∈M,ObjZ (szS s0) C o.1 o.2.1 o.2.2
 nd:(M.map (·.1)).Nodup
 cw:∀ x∈C,∀ p,p < x.fr.length * szS s0->adr (szS s0) x.fr p∉M.map (·.1)->st.s.ws[adr (szS s0) x.fr p]?=s0.ws[adr (szS s0) x.fr p]?
 cf:∀ o∈nob T0.i.words.toNat M,st.s.ws[o.1]?=some (fwdW ((adr (szS s0) T.fr o.2.1:Nat):Int))
 kw:∀ x∈K,∀ p,p < x.fr.length * szS s0->st.s.ws[adr (szS s0) x.fr p]?=s0.ws[adr (szS s0) x.fr p]?
 tw:∀ p,p < T0.i.words.toNat->st.s.ws[adr (szS s0) T.fr p]?=s0.ws[adr (szS s0) T.fr p]?
 hd:∀ o∈nob T0.i.words.toNat M,st.s.ws[adr (szS s0) T.fr o.2.1]?=some (hdW o.2.2.1 o.2.2.2)
 dat:∀ o∈nob T0.i.words.toNat M,∀ k,o.2.2.1 < k->k<=o.2.2.1+o.2.2.2->st.s.ws[adr (szS s0) T.fr (o.2.1+k)]?=s0.ws[srcA s0 o.1 k]?
 ref:∀ n o,(nob T0.i.words.toNat M)[n]?=some o->∀ k,1<=k->k<=o.2.2.1 ->
  if n < sn\/(n=sn/\k<=sk) then ∃ w v,s0.ws[srcA s0 o.1 k]?=some w/\st.s.ws[adr (szS s0) T.fr (o.2.1+k)]?=some v/\ImgP s0 C st.mv w v
  else st.s.ws[adr (szS s0) T.fr (o.2.1+k)]?=s0.ws[srcA s0 o.1 k]?
def Qcc(z n:Nat):Nat:=(n+z - 1) / z
theorem Qcx{z:Nat}(hz:0 < z)(n:Nat):n<=Qcc z n * z:=by
 have:=(VH (x:=n+z - 1) (y:=Qcc z n+1) hz).1 (Nat.lt_succ_self _)
 rw [Vu,Yr] at this
 omega
theorem ceilN_of{z:Nat}(hz:0 < z){n c:Nat}(h:n<=c * z):Qcc z n<=c:=by
 have:=(VH (x:=n+z - 1) (y:=c+1) hz).2 (by rw [Vu,Yr];omega)
 show (n+z - 1) / z<=c
 omega
theorem QeE{z:Nat}(hz:0 < z)(a b:Nat):Qcc z (a+b)<=Qcc z a+Qcc z b:=by
 refine ceilN_of hz ?_
 rw [Vu]
 have:=Qcx hz a
 have:=Qcx hz b
 omega
theorem ceilN_mono{z:Nat}(hz:0 < z){a b:Nat}(h:a<=b):Qcc z a<=Qcc z b:=by
 refine ceilN_of hz ?_
 have:=Qcx hz b
 omega
theorem QaR{s:Sp}(hs:Qcg s.sh){n:Int}(h:0<=n/\n<=1099511627776):clN s n=(Qcc (szS s) n.toNat:Nat):=by
 have:=Qcb hs (n:=n.toNat) Oo
 rw [show ((n.toNat:Nat):Int)=n by omega] at this
 exact this
theorem ceil_sum{s:Sp}(hs:XA s):∀ {C:List Itm},(∀ x∈C,JN s x)->(Qcc (szS s) (sumN C):Int)<=sumF s C
 | [],_=>by
  have hz:=(XC hs.shp.sh).2.2.1
  have:Qcc (szS s) (sumN [])<=0:=ceilN_of Oo (by simp [sumN])
  simp [sumF];omega
 | x :: C,h=>by
  have hz:=(XC hs.shp.sh).2.2.1
  have h1:=ceil_sum hs (C:=C) λy hy=>h y (Wm _ hy)
  have hw:=(h x (Wz ..)).inc.wd
  have hwl:=XT hs
  have h2:=QaR hs.shp.sh (n:=x.i.words) ⟨Oo,Oo⟩
  have h3:=QeE (z:=szS s) Oo x.i.words.toNat (sumN C)
  have e1:sumN (x :: C)=x.i.words.toNat+sumN C:=by unfold sumN;rw [W3,UI]
  have e2:sumF s (x :: C)=clN s x.i.words+sumF s C:=by unfold sumF;rw [W3,UI]
  rw [e1,e2,h2]
  omega
theorem Qch.room{s:Sp}(hs:XA s){i:Inc}{fr:List Nat}(h:Qch s i fr):i.words.toNat<=fr.length * szS s:=by
 have hz:=(XC hs.shp.sh).2.2.1
 have hwl:=XT hs
 have hw:=h.wd
 have h1:=h.len
 rw [QaR hs.shp.sh ⟨Oo,Oo⟩] at h1
 have:=Qcx (z:=szS s) Oo i.words.toNat
 rw [show fr.length=Qcc (szS s) i.words.toNat by omega]
 exact this
theorem Itm.posOk{s:Sp}(hs:XA s){x:Itm}(hx:JN s x){p r d:Nat}(h:(p,r,d)∈obs 0 x.os):p+r+d < x.fr.length * szS s/\r<=15/\d<=32/\s.ws[adr (szS s) x.fr p]?=some (hdW r d):=by
 have hg:=hx.lay.get _ h
 have hr:=hx.inc.room hs
 dsimp only at hg
 exact ⟨Oo,hg.2.2.1,hg.2.2.2.1,hg.2.2.2.2⟩
section
variable{s0:Sp}{C K:List Itm}{T0:Itm}{sn sk:Nat}{st:EvS}{T:Itm}{M:List (Nat×Nat×Nat)}
theorem Jp.z(h:Jp s0 C K T0 sn sk st T M):szS st.s=szS s0:=by unfold szS;rw [h.sh]
theorem EvC.z0(hC:EvC s0 C K T0):8<=szS s0:=(XC hC.ok.shp.sh).2.2.1
theorem ev_isC(hC:EvC s0 C K T0)(h:Jp s0 C K T0 sn sk st T M)(k:Nat):isC st.s.fs (C.map Itm.i) k=isC s0.fs (C.map Itm.i) k:=by
 have h1:=Qen (k:=k) λx hx=>h.oth x (We _ hx)
 have h2:=Qen (k:=k) λx hx=>(hC.cs x hx).inc.toIncC
 cases e1:isC st.s.fs (C.map Itm.i) k <;> cases e2:isC s0.fs (C.map Itm.i) k
 ·rfl
 ·rw [h1.2 (h2.1 e2)] at e1;cases e1
 ·rw [h2.2 (h1.1 e1)] at e2;cases e2
 ·rfl
theorem ev_win(hC:EvC s0 C K T0)(h:Jp s0 C K T0 sn sk st T M)(x:Int):QaY st.s (C.map Itm.i) x<->QaY s0 (C.map Itm.i) x:=by
 unfold QaY Jf
 rw [h.wl,h.z,ev_isC hC h]
theorem Qbq(h:Jp s0 C K T0 sn sk st T M):T0.i.words.toNat+szM M<=T.fr.length * szS s0:=by
 have:=h.inc.room h.ok
 rw [h.z,h.sq.2.2] at this
 omega
theorem ev_sum(hC:EvC s0 C K T0){M:List (Nat×Nat×Nat)}(hs:∀ o∈M,ObjZ (szS s0) C o.1 o.2.1 o.2.2)(hn:(M.map (·.1)).Nodup):szM M<=sumN C:=by
 rw [<- szM_all hC.cs]
 refine sub_sum M _ ?_ λo ho=>objZ_iff.1 (hs o ho)
 rw [W1] at hn ⊢
 rw [Vh] at hn
 exact hn.imp λh e=>h (by rw [e])
theorem sumN_le(hC:EvC s0 C K T0):Qcc (szS s0) (sumN C)<=(Qj s0.fs).length:=by
 have h1:=ceil_sum hC.ok hC.cs
 have h2:=hC.need
 omega
theorem Qev(fs:List Fe):(Qj fs).length<=fs.length:=by
 have:=WN (isFr fs) (List.range fs.length)
 rw [WM] at this
 exact this
theorem sumN_16(hC:EvC s0 C K T0):sumN C<=16384:=by
 have h1:=sumN_le hC
 have h2:=Qev s0.fs
 have h3:=hC.ok.shp.hi
 obtain ⟨g1,g2,g3,g4,g5⟩:=XC hC.ok.shp.sh
 have h4:=Qcx (z:=szS s0) Oo (sumN C)
 have h5:Qcc (szS s0) (sumN C) * szS s0<=64 * 256:=Uh Oo g4
 omega
theorem ev_budget(hC:EvC s0 C K T0)(h:Jp s0 C K T0 sn sk st T M){a r d:Nat}(ho:ObjZ (szS s0) C a r d)(hn:a∉M.map (·.1))(hr:r<=15)(hd:d<=32):exN st.s T.i (1+(r:Int)+d)<=(Qj st.s.fs).length:=by
 have hz:=hC.z0
 have h16:=sumN_16 hC
 have hsum:=ev_sum hC (M:=M++[(a,r,d)]) (λo hm=>by
  rcases Wk.1 hm with hm | hm
  ·exact h.src o hm
  ·rw [Wl.1 hm];exact ho) (by
  rw [WF,V7]
  refine ⟨h.nd,Os,λx hx y hy=>?_⟩
  rw [UR,Wl] at hy
  rintro rfl
  rw [hy] at hx
  exact hn hx)
 rw [szM_snoc] at hsum
 obtain ⟨m,e1,e2⟩:=h.fr
 have hw:=h.inc.wd
 have hwl:=XT h.ok
 have hlen:=h.inc.len
 have hw0:=hC.t0.inc.wd
 have hwl0:=XT hC.ok
 have hlen0:=hC.t0.inc.len
 have hsq:=h.sq.2.2
 rw [QaR h.ok.shp.sh ⟨Oo,Oo⟩,h.z] at hlen
 rw [QaR hC.ok.shp.sh ⟨Oo,Oo⟩] at hlen0
 have hex:=(exN_ok h.ok.shp hw (n:=1+(r:Int)+d) ⟨Oo,Oo⟩).1
 rw [QaR h.ok.shp.sh ⟨Oo,Oo⟩,QaR h.ok.shp.sh ⟨Oo,Oo⟩,h.z] at hex
 have k1:=QeE (z:=szS s0) Oo T0.i.words.toNat (szM M+1+r+d)
 have k2:=ceilN_mono (z:=szS s0) Oo hsum
 have k3:=sumN_le hC
 have e3:(T.i.words+(1+(r:Int)+d)).toNat=T0.i.words.toNat+(szM M+1+r+d):=by omega
 rw [e3] at hex
 have e4:=congrArg List.length e1
 have e5:=congrArg List.length e2
 rw [Wn,Ws] at e4
 rw [WY] at e5
 omega
theorem head_ne(hC:EvC s0 C K T0){y:Itm}(hy:y∈C){p r d k:Nat}(ho:(p,r,d)∈obs 0 y.os)(h1:1<=k)(h2:k<=r+d){a r' d':Nat}(hz:ObjZ (szS s0) C a r' d'):adr (szS s0) y.fr (p+k)≠a:=by
 obtain ⟨x,hx,q,hq,rfl⟩:=hz
 have hz0:=hC.z0
 have hy1:=(hC.cs y hy)
 have hx1:=(hC.cs x hx)
 have b1:=Itm.posOk hC.ok hy1 ho
 have b2:=Itm.posOk hC.ok hx1 hq
 intro e
 by_cases hs:x.i.seq=y.i.seq
 ·obtain rfl:=hC.sqC x (We _ hx) y (We _ hy) hs
  have:=QaS Oo hx1.inc.nd (p:=p+k) (q:=q) Oo Oo e
  rcases obs_sep ho hq with h | h | h
  ·injection h with h _;omega
  ·dsimp only at h;omega
  ·dsimp only at h;omega
 ·exact Qdg Oo (hy1.inc.toIncC.disj hx1.inc.toIncC λh=>hs h.symm) (p:=p+k) (q:=q) Oo Oo e
theorem srcA_at(hC:EvC s0 C K T0){y:Itm}(hy:y∈C){p r d k:Nat}(ho:(p,r,d)∈obs 0 y.os)(hk:k<=r+d):srcA s0 (adr (szS s0) y.fr p) k=adr (szS s0) y.fr (p+k):=by
 have hy1:=(hC.cs y hy)
 have b1:=Itm.posOk hC.ok hy1 ho
 unfold srcA
 rw [go_k (k:=k) hC.ok.shp hy1.inc.ch hy1.inc.own Oo]
 rfl
end
theorem U64_fwd{b:Int}(h:0<=b/\b < 16384):U64 (fwdW b):=by unfold U64 fwdW;omega
theorem movs_app{z:Nat}(hz:0 < z){fr l:List Nat}{p:Nat}{M:List (Nat×Nat×Nat)}(h:p+szM M<=fr.length * z):Qee z (fr++l) p M=Qee z fr p M:=by
 unfold Qee
 refine WU λo ho=>?_
 have:=Jg M p o ho
 rw [ZO hz Oo]
set_option maxHeartbeats 1000000 in
theorem ev_new{s0:Sp}{C K:List Itm}{T0:Itm}{sn sk:Nat}{s:Sp}{mv:List Mov}{T:Itm}{M:List (Nat×Nat×Nat)}(hC:EvC s0 C K T0)(h:Jp s0 C K T0 sn sk ⟨s,T.i,mv⟩ T M)(hsn:sn<=M.length/\(sk=0\/sn < M.length)){y:Itm}(hy:y∈C){p r d:Nat}(ho:(p,r,d)∈obs 0 y.os)
  (hn:adr (szS s0) y.fr p∉M.map (·.1)) :
  let n:Int:=1+(r:Int)+d
  let T':Itm:=⟨grw s T.i n,T.fr++(Qj s.fs).take (exN s T.i n),T.os++[(r,d)]⟩
  SrcP s T.fr ((adr (szS s0) y.fr p:Nat):Int) y.fr p r d/\exN s T.i n<=(Qj s.fs).length/\Jp s0 C K T0 sn sk (mvS ⟨s,T.i,mv⟩ ((adr (szS s0) y.fr p:Nat):Int) r d) T' (M++[(adr (szS s0) y.fr p,r,d)]) /\
   mvA ⟨s,T.i,mv⟩ r d=((adr (szS s0) T'.fr (T0.i.words.toNat+szM M):Nat):Int)/\mvA ⟨s,T.i,mv⟩ r d < 16384:=by
 intro n T'
 have hok:XA s:=h.ok
 have hsw:SpW s:=h.w
 have hinc:Qch s T.i T.fr:=h.inc
 have hoth:∀ x∈C++K,IncC s.fs x.i x.fr:=h.oth
 have hz:=hC.z0
 have ez:szS s=szS s0:=h.z
 have hy1:=hC.cs y hy
 obtain ⟨hrm,r15,d32,hhd⟩:=Itm.posOk hC.ok hy1 ho
 have hyo:=hoth y (We _ hy)
 have hoz:ObjZ (szS s0) C (adr (szS s0) y.fr p) r d:=⟨y,hy,p,ho,rfl⟩
 have hl2:exN s T.i n<=(Qj s.fs).length:=ev_budget hC h hoz hn r15 d32
 have hn48:1<=n/\n<=48:=by omega
 have hgk:=Qet hok hinc hn48 hl2
 have hat:=hgk.at hok hinc hn48 hl2
 have hwd:=hinc.wd
 have hwl:=XT hok
 have hroom:=Qbq h
 have hsq:=h.sq.2.2
 have hcw:s.ws[adr (szS s0) y.fr p]?=some (hdW r d):=by rw [<- hhd];exact h.cw y hy p Oo hn
 have hdj:∀ k∈y.fr,k∉T.fr:=hyo.disj hinc.toIncC (by rw [h.sq.1];exact hC.sqT y (We _ hy))
 have src:SrcP s T.fr ((adr (szS s0) y.fr p:Nat):Int) y.fr p r d:=⟨by rw [ez],hyo.ch,hyo.own,hdj,by rw [ez];exact hrm,r15,d32,by rw [ez];exact hcw⟩
 refine ⟨src,hl2,?_⟩
 have hp':T.i.words.toNat=T0.i.words.toNat+szM M:=by omega
 have hb:mvA ⟨s,T.i,mv⟩ r d=((adr (szS s0) T'.fr (T0.i.words.toNat+szM M):Nat):Int):=by
  unfold mvA
  show (GoR ⟨s.sh,s.ws,QX s T.i n⟩ ((grw s T.i n).first * 2 ^ s.sh.toNat) T.i.words).1=_
  rw [hat,ez,hp']
 have hfr':T'.fr.length * szS s0 >= T0.i.words.toNat+szM M+1+r+d:=by
  have:=(Jk hok.shp hinc hn48).1
  show (T.fr++(Qj s.fs).take (exN s T.i n)).length * szS s0 >= _
  rw [Wn,Ws,W7 hl2,<- ez]
  omega
 have hgo:∀ k,k<=r+d->GoR ⟨s.sh,s.ws,QX s T.i n⟩ (mvA ⟨s,T.i,mv⟩ r d) (k:Int)=(((adr (szS s0) T'.fr (T0.i.words.toNat+szM M+k):Nat):Int),0):=λk hk=>by
  rw [hb]
  have:=go_k (s:=⟨s.sh,s.ws,QX s T.i n⟩) (fr:=T'.fr) (k:=k) (p:=T0.i.words.toNat+szM M) hgk.sp.shp hgk.inc.toIncC.ch hgk.inc.toIncC.own (by show _ < _ * szS s;rw [ez];omega)
  rw [show szS ⟨s.sh,s.ws,QX s T.i n⟩=szS s0 from ez] at this
  exact this
 obtain ⟨hc2,ho2⟩:=grw_keep hok hinc hn48 hl2 src.ch src.ow src.dj
 have hgoA:∀ k,k<=r+d->GoR ⟨s.sh,s.ws,QX s T.i n⟩ ((adr (szS s0) y.fr p:Nat):Int) (k:Int)=(((adr (szS s0) y.fr (p+k):Nat):Int),0):=λk hk=>by
  have:=go_k (s:=⟨s.sh,s.ws,QX s T.i n⟩) (fr:=y.fr) (k:=k) (p:=p) hgk.sp.shp hc2 ho2 (by show _ < _ * szS s;rw [ez];omega)
  rw [show szS ⟨s.sh,s.ws,QX s T.i n⟩=szS s0 from ez] at this
  exact this
 have hT'c:=hgk.inc.toIncC
 have hT'lt:∀ q,q < T'.fr.length * szS s0->adr (szS s0) T'.fr q < s.ws.length:=λq hq=>by
  have:=Jt (s:=⟨s.sh,s.ws,QX s T.i n⟩) (fr:=T'.fr) hgk.sp.shp hT'c.ch.lt (p:=q) (by show _ < _ * szS s;rw [ez];exact hq)
  rw [show szS ⟨s.sh,s.ws,QX s T.i n⟩=szS s0 from ez] at this
  exact this
 have hother:∀ k (h1:k < s.fs.length) (h2:k < (QX s T.i n).length),¬ (k∈T'.fr)->(QX s T.i n)[k]=s.fs[k]:=λk h1 h2 h3=>hgk.other k h1 h2 (λhk=>h3 (We _ hk)) λhk=>h3 (Wh _ hk)
 have hnotT':∀ x∈C++K,∀ k∈x.fr,k∉T'.fr:=λx hx k hk hm=>by
  have ho:=hoth x hx
  rcases Wk.1 hm with hm | hm
  ·exact ho.disj hinc.toIncC (by rw [h.sq.1];exact hC.sqT x hx) k hk hm
  ·obtain ⟨h1,h0⟩:=Qbo (Vy hm)
   have:=(ho.ow k h1).2 hk
   have:=ho.sq.1
   omega
 have hoth':∀ x∈C++K,IncC (QX s T.i n) x.i x.fr:=λx hx=>by
  refine (hoth x hx).keep hgk.len (D:=λk=>k∈T'.fr) hother λk h1 hk=>⟨λhk2=>hnotT' x hx k hk2 hk,?_⟩
  rw [(hT'c.ow k h1).2 hk,hgk.same.2.1,h.sq.1]
  exact λe=>hC.sqT x hx e.symm
 have hneT:∀ x∈C++K,∀ q q',q < x.fr.length * szS s0->q' < T'.fr.length * szS s0->adr (szS s0) x.fr q≠adr (szS s0) T'.fr q':=λx hx q q' h1 h2=>Qdg Oo (hnotT' x hx) h1 h2
 have hA:∀ k,k < r+d+1->(GoR ⟨s.sh,s.ws,QX s T.i n⟩ ((adr (szS s0) y.fr p:Nat):Int) (k:Int)).1.toNat=adr (szS s0) y.fr (p+k):=λk hk=>by rw [hgoA k Oo];rfl
 have hB:∀ k,k < r+d+1->(GoR ⟨s.sh,s.ws,QX s T.i n⟩ (mvA ⟨s,T.i,mv⟩ r d) (k:Int)).1.toNat=adr (szS s0) T'.fr (T0.i.words.toNat+szM M+k):=λk hk=>by rw [hgo k Oo];rfl
 have lA:∀ k,k < r+d+1->adr (szS s0) y.fr (p+k) < s.ws.length:=λk hk=>by
  have:=Jt hok.shp hyo.ch.lt (p:=p+k) (by rw [ez];omega)
  rwa [ez] at this
 have lB:∀ k,k < r+d+1->adr (szS s0) T'.fr (T0.i.words.toNat+szM M+k) < s.ws.length:=λk hk=>hT'lt _ Oo
 obtain ⟨c1,c2⟩:=cpyW_get (s:=⟨s.sh,s.ws,QX s T.i n⟩) (a:=((adr (szS s0) y.fr p:Nat):Int)) (b:=mvA ⟨s,T.i,mv⟩ r d) (l:=s.ws) (A:=λk=>adr (szS s0) y.fr (p+k)) (B:=λk=>adr (szS s0) T'.fr (T0.i.words.toNat+szM M+k)) (r+d+1) hA hB lA lB
  (λj k h1 h2 e=>by have:=QaS Oo hT'c.nd (p:=T0.i.words.toNat+szM M+j) (q:=T0.i.words.toNat+szM M+k) (by show _ < T'.fr.length * _;omega) (by show _ < T'.fr.length * _;omega) e;omega)
  (λj k h1 h2=>hneT y (We _ hy) _ _ Oo Oo)
 have ha0:adr (szS s0) y.fr p < s.ws.length:=lA 0 Oo
 have e3:((r:Int)+d+1).toNat=r+d+1:=by omega
 have eS:mvS ⟨s,T.i,mv⟩ ((adr (szS s0) y.fr p:Nat):Int) r d=⟨⟨s.sh,(cpyW ⟨s.sh,s.ws,QX s T.i n⟩ ((adr (szS s0) y.fr p:Nat):Int) (mvA ⟨s,T.i,mv⟩ r d) (r+d+1) s.ws).set (adr (szS s0) y.fr p) (fwdW (mvA ⟨s,T.i,mv⟩ r d)),QX s T.i n⟩,grw s T.i n,mv++[⟨((adr (szS s0) y.fr p:Nat):Int),mvA ⟨s,T.i,mv⟩ r d⟩]⟩:=by
  unfold mvS
  dsimp only
  rw [e3]
  rfl
 rw [eS]
 generalize hW':(cpyW ⟨s.sh,s.ws,QX s T.i n⟩ ((adr (szS s0) y.fr p:Nat):Int) (mvA ⟨s,T.i,mv⟩ r d) (r+d+1) s.ws).set (adr (szS s0) y.fr p) (fwdW (mvA ⟨s,T.i,mv⟩ r d))=ws'
 have wl':ws'.length=s.ws.length:=by rw [<- hW'];simp
 have w1:ws'[adr (szS s0) y.fr p]?=some (fwdW (mvA ⟨s,T.i,mv⟩ r d)):=by rw [<- hW',WB (by rw [QdU];exact ha0)]
 have w2:∀ k,k<=r+d->ws'[adr (szS s0) T'.fr (T0.i.words.toNat+szM M+k)]?=s.ws[adr (szS s0) y.fr (p+k)]?:=λk hk=>by
  rw [<- hW',WA (hneT y (We _ hy) _ _ Oo Oo)]
  exact c1 k Oo
 have w3:∀ x,x≠adr (szS s0) y.fr p->(∀ k,k<=r+d->x≠adr (szS s0) T'.fr (T0.i.words.toNat+szM M+k))->ws'[x]?=s.ws[x]?:=λx h1 h2=>by
  rw [<- hW',WA (λe=>h1 e.symm)]
  exact c2 x λk hk=>h2 k Oo
 have w4:∀ q,q < T0.i.words.toNat+szM M->ws'[adr (szS s0) T'.fr q]?=s.ws[adr (szS s0) T.fr q]?:=λq hq=>by
  have eq:adr (szS s0) T'.fr q=adr (szS s0) T.fr q:=ZO Oo Oo
  rw [w3 _ (λe=>hneT y (We _ hy) p q Oo Oo e.symm) λk hk e=>?_,eq]
  have:=QaS Oo hT'c.nd (p:=q) (q:=T0.i.words.toNat+szM M+k) (by show _ < T'.fr.length * _;omega) (by show _ < T'.fr.length * _;omega) e
  omega
 have hbr:0<=mvA ⟨s,T.i,mv⟩ r d/\mvA ⟨s,T.i,mv⟩ r d < 16384:=by
  rw [hb]
  have:=hT'lt (T0.i.words.toNat+szM M) Oo
  omega
 have hszM:szM (M++[(adr (szS s0) y.fr p,r,d)])=szM M+1+r+d:=szM_snoc _ _ _ _
 have hnob:nob T0.i.words.toNat (M++[(adr (szS s0) y.fr p,r,d)])=nob T0.i.words.toNat M++[(adr (szS s0) y.fr p,T0.i.words.toNat+szM M,r,d)]:=nob_snoc _ _ _ _ _
 have hobE:∀ o∈nob T0.i.words.toNat M,adr (szS s0) T'.fr o.2.1=adr (szS s0) T.fr o.2.1:=λo hm=>by
  have:=Jg M _ o hm
  exact ZO Oo Oo
 have hnobL:=QcU M T0.i.words.toNat
 refine ⟨?_,hb,hbr.2⟩
 refine ⟨h.sh,wl'.trans h.wl,hgk.len.trans h.fl,?_,?_,rfl,?_,?_,?_,?_,?_,hoth',?_,?_,?_,?_,?_,?_,?_,?_,?_,?_⟩
 ·
  refine sp_ws hgk.sp (ws:=ws') wl' λk hk h0 a h1 h2 e=>?_
  have e':a / szS s0=k:=by rw [<- ez];exact e
  have:=w3 a (λea=>?_) λj hj ea=>?_
  ·rw [Wa h2,Wa h1] at this
   injection this
  ·have hm:=adr_fr Oo (show p < y.fr.length * szS s0 by omega)
   rw [<- ea,e'] at hm
   exact ho2 k hm hk h0
  ·have hm:=adr_fr Oo (show T0.i.words.toNat+szM M+j < T'.fr.length * szS s0 by omega)
   rw [<- ea,e'] at hm
   exact hT'c.own k hm hk h0
 ·
  refine ⟨λx hx=>?_,(λf hf=>?_)⟩
  ·dsimp only at hx
   rw [<- hW'] at hx
   rcases WR hx with hx | rfl
   ·exact cpyW_all hsw.1 (show U64 0 by unfold U64;omega) _ x hx
   ·exact U64_fwd hbr
  ·obtain ⟨k,hk,rfl⟩:=WQ.1 hf
   have hk':k < (QX s T.i n).length:=hk
   have hks:k < s.fs.length:=by rw [<- hgk.len];exact hk'
   by_cases c:k∈T'.fr
   ·have q1:=(hT'c.ow k hk').2 c
    have q2:=hT'c.st k hk' c
    have q3:=hT'c.sq
    have q4:=hT'c.bl
    have q5:=Z1 hgk.sp.fm k hk'
    have q6:=hgk.sp.shp.hi
    show I64 (QX s T.i n)[k].ow/\I64 (QX s T.i n)[k].st/\I64 (QX s T.i n)[k].nx
    dsimp only at q5 q6
    rw [q1,q2]
    unfold I64
    omega
   ·show I64 (QX s T.i n)[k].ow/\I64 (QX s T.i n)[k].st/\I64 (QX s T.i n)[k].nx
    rw [hother k hks hk' c]
    exact hsw.2 _ (Wd hks)
 ·
  obtain ⟨m,m1,m2⟩:=h.fr
  refine ⟨m+exN s T.i n,?_,?_⟩
  ·show T.fr++(Qj s.fs).take (exN s T.i n)=_
   rw [m1,show Qj s.fs=_ from m2,WX,List.take_add]
  ·show Qj (QX s T.i n)=_
   rw [hgk.free,show Qj s.fs=_ from m2,List.drop_drop]
 ·
  have:=hgk.inc
  exact ⟨this.toIncC,by have:=this.wd;rw [wl'];exact this,this.len⟩
 ·
  exact ⟨hgk.same.2.1.trans h.sq.1,hgk.same.2.2.trans h.sq.2.1,by show (grw s T.i n).words=_;rw [hgk.same.1,hszM];omega⟩
 ·
  show T.os++[(r,d)]=_
  rw [h.os,WF,WX]
  rfl
 ·
  show mv++[_]=_
  have:=h.mv
  dsimp only at this
  unfold Qee
  rw [hb,hnob,WF,this,<- movs_app (l:=(Qj s.fs).take (exN s T.i n)) Oo hroom]
  rfl
 ·
  intro k hk h0
  have hk':k < (QX s T.i n).length:=hk
  have hks:k < s.fs.length:=by rw [<- hgk.len];exact hk'
  by_cases c:k∈T'.fr
  ·exact .inl c
  ·have h0:¬ (QX s T.i n)[k].ow = -1:=h0
   rw [hother k hks hk' c] at h0
   rcases h.own k hks h0 with q | q
   ·exact absurd (We _ q) c
   ·exact .inr q
 ·
  intro o hm
  rcases Wk.1 hm with hm | hm
  ·exact h.src o hm
  ·rw [Wl.1 hm];exact hoz
 ·
  rw [WF,V7]
  refine ⟨h.nd,Os,λx hx q hq=>?_⟩
  rw [UR,Wl] at hq
  rintro rfl
  rw [hq] at hx
  exact hn hx
 ·
  intro x hx q hq hm
  rw [WF,Wk] at hm
  refine (w3 _ (λe=>hm (.inr (Wl.2 e))) λk hk=>hneT x (We _ hx) _ _ hq Oo).trans (h.cw x hx q hq λk=>hm (.inl k))
 ·
  intro o hm
  rw [hnob] at hm
  rcases Wk.1 hm with hm | hm
  ·rw [hobE o hm]
   obtain ⟨x,hx,q,hq,e⟩:=h.src _ (Qed M _ o hm)
   have hq2:=(Itm.posOk hC.ok (hC.cs x hx) hq).1
   dsimp only at e
   refine (w3 _ (λe2=>hn ?_) λk hk=>?_).trans (h.cf o hm)
   ·rw [<- e2,<- nob_fst M T0.i.words.toNat]
    exact WT hm
   ·rw [e]
    exact hneT x (We _ hx) _ _ Oo Oo
  ·rw [Wl.1 hm]
   rw [<- hb]
   exact w1
 ·
  intro x hx q hq
  refine (w3 _ (λe=>?_) λk hk=>hneT x (Wh _ hx) _ _ hq Oo).trans (h.kw x hx q hq)
  exact Qdg Oo (hyo.disj (hoth x (Wh _ hx)) (hC.sqK y hy x hx)) (p:=p) (q:=q) Oo hq e.symm
 ·
  intro q hq
  have eq:adr (szS s0) T'.fr q=adr (szS s0) T.fr q:=ZO Oo Oo
  show ws'[adr (szS s0) T'.fr q]?=s0.ws[adr (szS s0) T'.fr q]?
  rw [w4 q Oo,eq]
  exact h.tw q hq
 ·
  intro o hm
  rw [hnob] at hm
  rcases Wk.1 hm with hm | hm
  ·have:=Jg M _ o hm
   exact (w4 _ Oo).trans (h.hd o hm)
  ·rw [Wl.1 hm]
   exact (w2 0 Oo).trans hcw
 ·
  intro o hm k h1 h2
  rw [hnob] at hm
  rcases Wk.1 hm with hm | hm
  ·have:=Jg M _ o hm
   exact (w4 _ Oo).trans (h.dat o hm k h1 h2)
  ·rw [Wl.1 hm] at h1 h2 ⊢
   dsimp only at h1 h2 ⊢
   refine (w2 k h2).trans ?_
   rw [srcA_at hC hy ho h2]
   refine h.cw y hy _ Oo λhmm=>?_
   obtain ⟨o',ho',e⟩:=Wj.1 hmm
   exact head_ne hC hy ho Oo h2 (h.src o' ho') e.symm
 ·
  intro j o hj k h1 h2
  rw [hnob] at hj
  rcases Wq j (nob T0.i.words.toNat M).length with hlt | hge
  ·rw [WK hlt] at hj
   have hm:=Wp hj
   have hin:=Jg M _ o hm
   have hold:=h.ref j o hj k h1 h2
   have ew:=w4 (o.2.1+k) Oo
   split
   ·rename_i hc
    rw [if_pos hc] at hold
    obtain ⟨w,v,q1,q2,q3⟩:=hold
    exact ⟨w,v,q1,ew.trans q2,q3.mono λm hm=>We _ hm⟩
   ·rename_i hc
    rw [if_neg hc] at hold
    exact ew.trans hold
  ·rw [WJ hge] at hj
   have hj0:j=(nob T0.i.words.toNat M).length:=by
    rcases Wq (j - (nob T0.i.words.toNat M).length) 1 with q | q
    ·omega
    ·rw [Wf (by simpa using q)] at hj;cases hj
   rw [hj0,V4] at hj
   injection hj with hj
   subst hj
   dsimp only at h2 ⊢
   rw [if_neg (by rintro (q | ⟨q1,q2⟩) <;> omega)]
   refine (w2 k Oo).trans ?_
   rw [srcA_at hC hy ho Oo]
   refine h.cw y hy _ Oo λhmm=>?_
   obtain ⟨o',ho',e⟩:=Wj.1 hmm
   exact head_ne hC hy ho Oo Oo (h.src o' ho') e.symm
section
variable{s0:Sp}{C K:List Itm}{T0:Itm}{sn sk:Nat}{st:EvS}{T:Itm}{M:List (Nat×Nat×Nat)}
theorem EvC.start(hC:EvC s0 C K T0):Jp s0 C K T0 0 0 ⟨s0,T0.i,[]⟩ T0 []:=by
 have hw:=hC.t0.inc.wd
 refine ⟨rfl,rfl,rfl,hC.ok,hC.w,rfl,⟨0,Os,Os⟩,hC.t0.inc,⟨rfl,rfl,by simp [szM];omega⟩,Os,rfl,λx hx=>?_,hC.own,λo h=>absurd h (Vr),Os,λ_ _ _ _ _=>rfl,λo h=>absurd h (Vr),λ_ _ _ _=>rfl,λ_ _=>rfl,λo h=>absurd h (Vr),λo h=>absurd h (Vr),λn o h=>by simp [nob] at h⟩
 rcases Wk.1 hx with h | h
 ·exact (hC.cs x h).inc.toIncC
 ·exact (hC.ks x h).inc.toIncC
theorem ev_len(hC:EvC s0 C K T0)(h:Jp s0 C K T0 sn sk st T M):M.length<=16384/\st.mv.length=M.length:=by
 have h1:=ev_sum hC h.src h.nd
 have h2:=sumN_16 hC
 have h3:∀ (M:List (Nat×Nat×Nat)),M.length<=szM M:=by
  intro M
  induction M with
  | nil=>exact Wo _
  | cons o M ih=>obtain ⟨a,r,d⟩:=o;show M.length+1<=1+r+d+szM M;omega
 refine ⟨by have:=h3 M;omega,?_⟩
 rw [h.mv]
 unfold Qee
 rw [Wb,QcU]
theorem ev_adr(h:Jp s0 C K T0 sn sk st T M){q:Nat}(hq:q < T.fr.length * szS s0):adr (szS s0) T.fr q < st.s.ws.length:=by
 have:=Jt h.ok.shp h.inc.ch.lt (p:=q) (by rw [h.z];exact hq)
 rwa [h.z] at this
theorem ev_move(hC:EvC s0 C K T0)(h:Jp s0 C K T0 sn sk st T M)(hsn:sn<=M.length/\(sk=0\/sn < M.length)){x:Int}(hx:U64 x)(hr:RefOk s0 C x) :
  MvP (C.map Itm.i) st T.fr x/\∃ T' N,Jp s0 C K T0 sn sk (mv1 (C.map Itm.i) st x).1 T' (M++N)/\ImgP s0 C (mv1 (C.map Itm.i) st x).1.mv x (mv1 (C.map Itm.i) st x).2/\U64 (mv1 (C.map Itm.i) st x).2/\(∃ l,T'.fr=T.fr++l)/\∃ l,(mv1 (C.map Itm.i) st x).1.mv=st.mv++l:=by
 obtain ⟨hl1,hl2⟩:=ev_len hC h
 have hcl:=hC.len
 have hwl:=XT h.ok
 by_cases hw:QaY st.s (C.map Itm.i) x
 ·have hw0:=(ev_win hC h x).1 hw
  obtain ⟨r,d,y,hy,p,ho,ea⟩:=hr hw0
  obtain ⟨⟨n0,n1⟩,_⟩:=id hw
  unfold U64 at hx
  have ex:x - 1=((adr (szS s0) y.fr p:Nat):Int):=by omega
  obtain ⟨hrm,r15,d32,hhd⟩:=Itm.posOk hC.ok (hC.cs y hy) ho
  obtain ⟨s,to,mv⟩:=st
  have eto:to=T.i:=h.to
  subst eto
  by_cases hm:adr (szS s0) y.fr p∈M.map (·.1)
  ·
   rw [<- nob_fst M T0.i.words.toNat] at hm
   obtain ⟨o,hom,eo⟩:=Wj.1 hm
   have hcf:=h.cf o hom
   have hin:=Jg M _ o hom
   have hroom:=Qbq h
   have hal:=ev_adr h (q:=o.2.1) Oo
   have ewa:wAt s (x - 1)=fwdW ((adr (szS s0) T.fr o.2.1:Nat):Int):=by rw [ex,<- eo];exact Xy hcf
   have edr:JH (wAt s (x - 1))=⟨0,0,((adr (szS s0) T.fr o.2.1:Nat):Int),true,0⟩:=by rw [ewa];exact DecR_fwd (by dsimp only at hal hwl;omega)
   have em:mv1 (C.map Itm.i) ⟨s,T.i,mv⟩ x=(⟨s,T.i,mv⟩,((adr (szS s0) T.fr o.2.1:Nat):Int)+1):=by
    unfold mv1
    dsimp only
    rw [if_pos hw,edr,if_pos rfl]
   rw [em]
   refine ⟨⟨h.ok,h.w,h.inc,hx,by rw [Wb];omega,Oo,λ_=>⟨?_,λk=>?_⟩⟩,T,[],by rw [VQ];exact h,.inr ⟨hw0,⟨(o.1:Int),((adr (szS s0) T.fr o.2.1:Nat):Int)⟩,?_,?_,rfl⟩,?_,⟨[],Os⟩,⟨[],Os⟩⟩
   ·show (JH (wAt s (x - 1))).e=0
    rw [edr]
   ·change (JH (wAt s (x - 1))).mv=false at k
    rw [edr] at k;cases k
   ·rw [h.mv]
    exact Wj.2 ⟨o,hom,rfl⟩
   ·show (o.1:Int)=x - 1
    rw [ex,<- eo]
   ·unfold U64;dsimp only at hal hwl;omega
  ·
   obtain ⟨src,hl,hI,hb,hb2⟩:=ev_new hC h hsn hy ho hm
   dsimp only at src hl hI hb hb2
   have hcw:s.ws[adr (szS s0) y.fr p]?=some (hdW r d):=by rw [<- hhd];exact h.cw y hy p Oo hm
   have ewa:wAt s (x - 1)=hdW r d:=by rw [ex];exact Xy hcw
   have edr:JH (wAt s (x - 1))=⟨r,d,0,false,0⟩:=by rw [ewa];exact DecR_hd ⟨Oo,Oo,Oo,Oo⟩
   have elk:QN s (x - 1)=⟨r,d,0⟩:=by rw [ex];exact src.look h.ok
   have em:mv1 (C.map Itm.i) ⟨s,T.i,mv⟩ x=(mvS ⟨s,T.i,mv⟩ ((adr (szS s0) y.fr p:Nat):Int) r d,mvA ⟨s,T.i,mv⟩ r d+1):=by
    unfold mv1
    dsimp only
    rw [if_pos hw,edr,if_neg Os,elk,ex]
   rw [em]
   refine ⟨⟨h.ok,h.w,h.inc,hx,by rw [Wb];omega,Oo,λ_=>⟨?_,λ_=>?_⟩⟩,_,_,hI,.inr ⟨hw0,⟨((adr (szS s0) y.fr p:Nat):Int),mvA ⟨s,T.i,mv⟩ r d⟩,Wh _ (Wl.2 rfl),ex.symm,rfl⟩,?_,⟨_,rfl⟩,⟨_,rfl⟩⟩
   ·show (JH (wAt s (x - 1))).e=0
    rw [edr]
   ·refine ⟨y.fr,p,r,d,?_,hl⟩
    rw [ex]
    exact src
   ·unfold U64;rw [hb] at hb2 ⊢;omega
 ·have em:mv1 (C.map Itm.i) st x=(st,x):=by unfold mv1;rw [if_neg hw]
  rw [em]
  exact ⟨⟨h.ok,h.w,h.to▸h.inc,hx,by rw [Wb];omega,Oo,λk=>absurd k hw⟩,T,[],by rw [VQ];exact h,.inl ⟨λk=>hw ((ev_win hC h x).2 k),rfl⟩,hx,⟨[],Os⟩,⟨[],Os⟩⟩
theorem ev_set(hC:EvC s0 C K T0)(h:Jp s0 C K T0 sn sk st T M){o:Nat×Nat×Nat×Nat}(hj:(nob T0.i.words.toNat M)[sn]?=some o)(hk:sk+1<=o.2.2.1){w v:Int}(hv:U64 v)(hw:s0.ws[srcA s0 o.1 (sk+1)]?=some w)(hi:ImgP s0 C st.mv w v) :
  Jp s0 C K T0 sn (sk+1) ⟨setS st.s ((adr (szS s0) T.fr (o.2.1+(sk+1)):Nat):Int) v,st.to,st.mv⟩ T M:=by
 have hz:=hC.z0
 have hroom:=Qbq h
 have hom:=Wp hj
 have hin:=Jg M _ o hom
 have hq:o.2.1+(sk+1) < T.fr.length * szS s0:=by omega
 have hlt:=ev_adr h hq
 have e1:∀ x,x≠adr (szS s0) T.fr (o.2.1+(sk+1))->(setS st.s ((adr (szS s0) T.fr (o.2.1+(sk+1)):Nat):Int) v).ws[x]?=st.s.ws[x]?:=λx hx=>by
  show (st.s.ws.set (((adr (szS s0) T.fr (o.2.1+(sk+1)):Nat):Int)).toNat v)[x]?=_
  rw [Wc,WA (λe=>hx e.symm)]
 have e2:(setS st.s ((adr (szS s0) T.fr (o.2.1+(sk+1)):Nat):Int) v).ws[adr (szS s0) T.fr (o.2.1+(sk+1))]?=some v:=by
  show (st.s.ws.set (((adr (szS s0) T.fr (o.2.1+(sk+1)):Nat):Int)).toNat v)[_]?=_
  rw [Wc,WB hlt]
 have el:(setS st.s ((adr (szS s0) T.fr (o.2.1+(sk+1)):Nat):Int) v).ws.length=st.s.ws.length:=setS_len _ _ _
 have hne:∀ q,q < T.fr.length * szS s0->q≠o.2.1+(sk+1)->adr (szS s0) T.fr q≠adr (szS s0) T.fr (o.2.1+(sk+1)):=λq h1 h2 e=>h2 (QaS Oo h.inc.nd h1 hq e)
 have hneX:∀ x∈C++K,∀ q,q < x.fr.length * szS s0->adr (szS s0) x.fr q≠adr (szS s0) T.fr (o.2.1+(sk+1)):=λx hx q h1=>Qdg Oo ((h.oth x hx).disj h.inc.toIncC (by rw [h.sq.1];exact hC.sqT x hx)) h1 hq
 have hT:=h.inc
 refine ⟨h.sh,el.trans h.wl,h.fl,?_,⟨λx hx=>?_,h.w.2⟩,h.to,h.fr,⟨hT.toIncC,by rw [el];exact hT.wd,hT.len⟩,h.sq,h.os,h.mv,h.oth,h.own,h.src,h.nd,?_,?_,?_,?_,?_,?_,?_⟩
 ·refine sp_ws h.ok el λk hk' h0 a h1 h2 e=>?_
  have:=e1 a λea=>?_
  ·exact Vq ((Wa h2).symm.trans (this.trans (Wa h1)))
  ·have hm:=adr_fr Oo hq
   rw [<- ea,<- h.z,e] at hm
   exact hT.own k hm hk' h0
 ·rcases WR hx with hx | rfl
  ·exact h.w.1 x hx
  ·exact hv
 ·exact λx hx q h1 h2=>(e1 _ (hneX x (We _ hx) q h1)).trans (h.cw x hx q h1 h2)
 ·intro o' ho'
  obtain ⟨x,hx,q,hq',e⟩:=h.src _ (Qed M _ o' ho')
  have hq2:=(Itm.posOk hC.ok (hC.cs x hx) hq').1
  dsimp only at e
  refine (e1 _ ?_).trans (h.cf o' ho')
  rw [e]
  exact hneX x (We _ hx) _ Oo
 ·exact λx hx q h1=>(e1 _ (hneX x (Wh _ hx) q h1)).trans (h.kw x hx q h1)
 ·exact λq h1=>(e1 _ (hne q Oo Oo)).trans (h.tw q h1)
 ·intro o' ho'
  have hin':=Jg M _ o' ho'
  refine (e1 _ (hne _ Oo λe=>?_)).trans (h.hd o' ho')
  obtain ⟨j,hj'⟩:=W6.1 ho'
  have hs:=nob_sep M T0.i.words.toNat
  obtain ⟨l1,g1⟩:=Wi.1 hj
  obtain ⟨l2,g2⟩:=Wi.1 hj'
  rcases Uy sn j with c | c | c
  ·have:=Wx.1 hs sn j l1 l2 c
   rw [g1,g2] at this;omega
  ·subst c;rw [hj] at hj';injection hj' with hj';subst hj';omega
  ·have:=Wx.1 hs j sn l2 l1 c
   rw [g1,g2] at this;omega
 ·intro o' ho' k h1 h2
  have hin':=Jg M _ o' ho'
  refine (e1 _ (hne _ Oo λe=>?_)).trans (h.dat o' ho' k h1 h2)
  obtain ⟨j,hj'⟩:=W6.1 ho'
  have hs:=nob_sep M T0.i.words.toNat
  obtain ⟨l1,g1⟩:=Wi.1 hj
  obtain ⟨l2,g2⟩:=Wi.1 hj'
  rcases Uy sn j with c | c | c
  ·have:=Wx.1 hs sn j l1 l2 c
   rw [g1,g2] at this;omega
  ·subst c;rw [hj] at hj';injection hj' with hj';subst hj';omega
  ·have:=Wx.1 hs j sn l2 l1 c
   rw [g1,g2] at this;omega
 ·intro j o' hj' k h1 h2
  have ho':=Wp hj'
  have hin':=Jg M _ o' ho'
  have hold:=h.ref j o' hj' k h1 h2
  by_cases hh:j=sn/\k=sk+1
  ·obtain ⟨rfl,rfl⟩:=hh
   rw [hj] at hj';injection hj' with hj';subst hj'
   rw [if_pos (.inr ⟨rfl,Wo _⟩)]
   exact ⟨w,v,hw,e2,hi⟩
  ·have hpos:o'.2.1+k≠o.2.1+(sk+1):=λe=>by
    have hs:=nob_sep M T0.i.words.toNat
    obtain ⟨l1,g1⟩:=Wi.1 hj
    obtain ⟨l2,g2⟩:=Wi.1 hj'
    rcases Uy sn j with c | c | c
    ·have:=Wx.1 hs sn j l1 l2 c
     rw [g1,g2] at this;omega
    ·subst c;rw [hj] at hj';injection hj' with hj';subst hj';omega
    ·have:=Wx.1 hs j sn l2 l1 c
     rw [g1,g2] at this;omega
   have ew:=e1 _ (hne (o'.2.1+k) Oo hpos)
   by_cases hc:j < sn\/(j=sn/\k<=sk)
   ·rw [if_pos hc] at hold
    rw [if_pos Oo]
    obtain ⟨w',v',q1,q2,q3⟩:=hold
    exact ⟨w',v',q1,ew.trans q2,q3⟩
   ·rw [if_neg hc] at hold
    rw [if_neg Oo]
    exact ew.trans hold
theorem ev_next(h:Jp s0 C K T0 sn sk st T M){o:Nat×Nat×Nat×Nat}(hj:(nob T0.i.words.toNat M)[sn]?=some o)(hk:sk=o.2.2.1):Jp s0 C K T0 (sn+1) 0 st T M:=by
 obtain ⟨a1,a2,a3,a4,a5,a6,a7,a8,a9,b1,b2,b3,b4,b5,b6,b7,b8,b9,c1,c2,c3,c4⟩:=h
 refine ⟨a1,a2,a3,a4,a5,a6,a7,a8,a9,b1,b2,b3,b4,b5,b6,b7,b8,b9,c1,c2,c3,λj o' hj' k h1 h2=>?_⟩
 have hold:=c4 j o' hj' k h1 h2
 by_cases hc:j < sn\/(j=sn/\k<=sk)
 ·rw [if_pos hc] at hold
  rw [if_pos Oo]
  exact hold
 ·rw [if_neg hc] at hold
  rw [if_neg ?_]
  ·exact hold
  ·rintro (q | ⟨_,q⟩)
   ·have:j=sn:=by omega
    subst this
    rw [hj] at hj';injection hj' with hj';subst hj'
    omega
   ·omega
theorem ev_fields(hC:EvC s0 C K T0)(h:Jp s0 C K T0 sn sk st T M){o:Nat×Nat×Nat×Nat}(ho:o∈nob T0.i.words.toNat M) :
  FldR st.s ((adr (szS s0) T.fr o.2.1:Nat):Int)=((List.range o.2.2.1).map λj=>((adr (szS s0) T.fr (o.2.1+(j+1)):Nat):Int),0)/\QN st.s ((adr (szS s0) T.fr o.2.1:Nat):Int)=⟨o.2.2.1,o.2.2.2,0⟩:=by
 have hz:=hC.z0
 have hroom:=Qbq h
 have hin:=Jg M _ o ho
 obtain ⟨x,hx,q,hq',e⟩:=h.src _ (Qed M _ o ho)
 obtain ⟨_,r15,d32,_⟩:=Itm.posOk hC.ok (hC.cs x hx) hq'
 have hl:=(Qej h.ok h.inc.ch h.inc.own (p:=o.2.1) (r:=o.2.2.1) (d:=o.2.2.2) (by rw [h.z];omega) r15 d32 (by rw [h.z];exact h.hd o ho)).1
 rw [h.z] at hl
 refine ⟨?_,hl⟩
 unfold FldR
 rw [hl,if_pos rfl]
 refine congrArg (λl=>(l,(0:Int))) ?_
 unfold fldL
 rw [Wc]
 refine WU λj hjm=>?_
 rw [WC] at hjm
 have:=go_k (k:=j+1) h.ok.shp h.inc.ch h.inc.own (p:=o.2.1) (by rw [h.z];omega)
 rw [h.z] at this
 rw [show (1+(j:Int))=((j+1:Nat):Int) by omega,this]
end
noncomputable def runW(l:List Inc)(st:EvS)(ws:List Int):EvS×List Int:=ws.foldl (λp x=>((mv1 l p.1 x).1,p.2++[(mv1 l p.1 x).2])) (st,[])
noncomputable def fldSt(l:List Inc)(st:EvS)(q:Int):EvS:=⟨setS (mv1 l st (wAt st.s q)).1.s q (mv1 l st (wAt st.s q)).2,(mv1 l st (wAt st.s q)).1.to,(mv1 l st (wAt st.s q)).1.mv⟩
noncomputable def Qbd(l:List Inc)(st:EvS)(k:Nat):EvS:=match st.mv[k]? with
 | none=>st
 | some m=>(FldR st.s m.to).1.foldl (fldSt l) st
noncomputable def scanN(l:List Inc):Nat->Nat->EvS->EvS
 | 0,k,st=>st
 | f+1,k,st=>if k < st.mv.length then scanN l f (k+1) (Qbd l st k) else st
noncomputable def runE(l:List Inc)(s:Sp)(to:Inc)(ws:List Int):EvS×List Int:=(scanN l 20000 0 (runW l ⟨s,to,[]⟩ ws).1,(runW l ⟨s,to,[]⟩ ws).2)
theorem nob_append:∀ (M N:List (Nat×Nat×Nat)) (p:Nat),nob p (M++N)=nob p M++nob (p+szM M) N
 | [],N,p=>by simp [nob,szM]
 | (b,r,d) :: M,N,p=>by
  show (b,p,r,d) :: nob (p+1+r+d) (M++N)=(b,p,r,d) :: (nob (p+1+r+d) M++nob (p+(1+r+d+szM M)) N)
  rw [nob_append M,show p+1+r+d+szM M=p+(1+r+d+szM M) by omega]
theorem nob_pre{M N:List (Nat×Nat×Nat)}{p j:Nat}{o:Nat×Nat×Nat×Nat}(h:(nob p M)[j]?=some o):(nob p (M++N))[j]?=some o:=by
 rw [nob_append,WK (Wi.1 h).1]
 exact h
structure EvR(s0:Sp)(C K:List Itm)(T0:Itm)(words:List Int)(st:EvS)(out:List Int)(T:Itm)(M:List (Nat×Nat×Nat)):Prop where
 inv:Jp s0 C K T0 M.length 0 st T M
 len:out.length=words.length
 img:∀ (j:Nat) (w v:Int),words[j]?=some w->out[j]?=some v->ImgP s0 C st.mv w v
 u:∀ v∈out,U64 v
section
variable{s0:Sp}{C K:List Itm}{T0:Itm}
theorem ev_field(hC:EvC s0 C K T0){k j:Nat}{st:EvS}{T:Itm}{M:List (Nat×Nat×Nat)}(h:Jp s0 C K T0 k j st T M){o:Nat×Nat×Nat×Nat}(hj:(nob T0.i.words.toNat M)[k]?=some o)(hk:j+1<=o.2.2.1){q:Int}(hq:q=((adr (szS s0) T.fr (o.2.1+(j+1)):Nat):Int)) :
  MvP (C.map Itm.i) st T.fr (wAt st.s q)/\0<=q/\q.toNat < st.s.ws.length/\(mv1 (C.map Itm.i) st (wAt st.s q)).1.s.ws.length=st.s.ws.length/\(mv1 (C.map Itm.i) st (wAt st.s q)).1.s.fs.length=st.s.fs.length/\∃ T' N,Jp s0 C K T0 k (j+1) (fldSt (C.map Itm.i) st q) T' (M++N)/\(∃ l,T'.fr=T.fr++l)/\∃ l,(fldSt (C.map Itm.i) st q).mv=st.mv++l:=by
 have hz:=hC.z0
 have hroom:=Qbq h
 have hom:=Wp hj
 have hin:=Jg M _ o hom
 have hkl:k < M.length:=by have:=(Wi.1 hj).1;rwa [QcU] at this
 have hql:=ev_adr h (q:=o.2.1+(j+1)) Oo
 have hcur:=h.ref k o hj (j+1) Oo hk
 rw [if_neg Oo] at hcur
 obtain ⟨w,hw⟩:∃ w,st.s.ws[adr (szS s0) T.fr (o.2.1+(j+1))]?=some w:=⟨_,Wa hql⟩
 have ew:wAt st.s q=w:=by rw [hq];exact Xy hw
 rw [hw] at hcur
 obtain ⟨x,hx,p,hp,e⟩:=h.src _ (Qed M _ o hom)
 dsimp only at e
 have hu:U64 w:=h.w.1 w (Wp hw)
 have hsrc:srcA s0 o.1 (j+1)=adr (szS s0) x.fr (p+(j+1)):=by rw [e];exact srcA_at hC hx hp (by show j+1<=o.2.2.1+o.2.2.2;omega)
 have hr:RefOk s0 C w:=hC.refs x hx p _ _ hp (j+1) Oo hk w (by rw [<- hsrc];exact hcur.symm)
 obtain ⟨m1,T',N,m2,m3,m4,⟨l,m5⟩,m6⟩:=ev_move hC h ⟨Oo,.inr hkl⟩ hu hr
 rw [ew]
 refine ⟨m1,Oo,by rw [hq,Wc];exact hql,m2.wl.trans h.wl.symm,m2.fl.trans h.fl.symm,T',N,?_,⟨l,m5⟩,by unfold fldSt;rw [ew];exact m6⟩
 have:=ev_set hC m2 (nob_pre hj) hk m4 hcur.symm m3
 unfold fldSt
 rw [ew,hq]
 have ea:adr (szS s0) T'.fr (o.2.1+(j+1))=adr (szS s0) T.fr (o.2.1+(j+1)):=by rw [m5];exact ZO Oo Oo
 rw [ea] at this
 exact this
set_option maxHeartbeats 1000000 in
theorem run_c(hC:EvC s0 C K T0){words:List Int}(hwd:∀ w∈words,U64 w/\RefOk s0 C w)(hwn:words.length<=100000) :
  Z6 s0 (C.map Itm.i) T0.i words=some ((runE (C.map Itm.i) s0 T0.i words).1.to,(runE (C.map Itm.i) s0 T0.i words).1.mv,(runE (C.map Itm.i) s0 T0.i words).2,0,(runE (C.map Itm.i) s0 T0.i words).1.s.ws,(runE (C.map Itm.i) s0 T0.i words).1.s.fs) /\
   ∃ T M,EvR s0 C K T0 words (runE (C.map Itm.i) s0 T0.i words).1 (runE (C.map Itm.i) s0 T0.i words).2 T M:=by
 generalize hL:C.map Itm.i=L
 suffices h:Gd (λr=>r=((runE L s0 T0.i words).1.to,(runE L s0 T0.i words).1.mv,(runE L s0 T0.i words).2,(0:Int),(runE L s0 T0.i words).1.s.ws,(runE L s0 T0.i words).1.s.fs)/\∃ T M,EvR s0 C K T0 words (runE L s0 T0.i words).1 (runE L s0 T0.i words).2 T M) (Z6 s0 L T0.i words) by
  obtain ⟨r,h1,rfl,h2⟩:=h
  exact ⟨h1,h2⟩
 unfold Z6
 let mk1:EvS×List Int->Int->List Int×List Fe×Int×List Inc×Int×Int×Int×Int×Int×List Mov×Int×List Int×Int:=λt i=>(t.1.s.ws,t.1.s.fs,t.1.s.sh,L,t.1.to.seq,t.1.to.belt,t.1.to.first,t.1.to.last,t.1.to.words,t.1.mv,0,t.2,i)
 refine Gd.bind (P:=λb=>b=((runW L ⟨s0,T0.i,[]⟩ words).1.s.ws,(runW L ⟨s0,T0.i,[]⟩ words).1.s.fs,(runW L ⟨s0,T0.i,[]⟩ words).1.s.sh,L,(runW L ⟨s0,T0.i,[]⟩ words).1.to.seq,(runW L ⟨s0,T0.i,[]⟩ words).1.to.belt,(runW L ⟨s0,T0.i,[]⟩ words).1.to.first,(runW L ⟨s0,T0.i,[]⟩ words).1.to.last,(runW L ⟨s0,T0.i,[]⟩ words).1.to.words,(runW L ⟨s0,T0.i,[]⟩ words).1.mv,(0:Int),(runW L ⟨s0,T0.i,[]⟩ words).2) /\
   (∃ T M,Jp s0 C K T0 0 0 (runW L ⟨s0,T0.i,[]⟩ words).1 T M)/\(runW L ⟨s0,T0.i,[]⟩ words).2.length=words.length/\(∀ (j:Nat) (w v:Int),words[j]?=some w->(runW L ⟨s0,T0.i,[]⟩ words).2[j]?=some v->ImgP s0 C (runW L ⟨s0,T0.i,[]⟩ words).1.mv w v)/\∀ v∈(runW L ⟨s0,T0.i,[]⟩ words).2,U64 v) ?_ λb hb=>?_
 ·refine Gd.fold words mk1 (λp x=>((mv1 L p.1 x).1,p.2++[(mv1 L p.1 x).2])) (⟨s0,T0.i,[]⟩,[]) (λi p=>(∃ T M,Jp s0 C K T0 0 0 p.1 T M)/\p.2.length=i/\(∀ (j:Nat) (w v:Int),words[j]?=some w->p.2[j]?=some v->ImgP s0 C p.1.mv w v)/\∀ v∈p.2,U64 v) rfl (λ_ _=>rfl) Oo
   ⟨⟨T0,[],hC.start⟩,rfl,λj w v _ h=>by simp at h,λv h=>absurd h (Vr)⟩ (λi hi p hp=>?_) (λhp=>⟨rfl,hp⟩)
  obtain ⟨⟨T,M,hI⟩,hlen,himg,hu⟩:=hp
  obtain ⟨hx1,hx2⟩:=hwd _ (Wd hi)
  obtain ⟨m1,T',N,m2,m3,m4,_,⟨l,m6⟩⟩:=ev_move hC hI ⟨W9 _,.inl rfl⟩ hx1 hx2
  rw [hL] at m1 m2 m3 m4 m6
  refine ⟨⟨⟨T',M++N,m2⟩,by rw [Wn,WE,hlen],λj w v h1 h2=>?_,λv hv=>?_⟩,?_⟩
  ·dsimp only at h2 ⊢
   rcases Wq j p.2.length with c | c
   ·rw [WK c] at h2
    exact (himg j w v h1 h2).mono λm hm=>by rw [m6];exact We _ hm
   ·rw [WJ c] at h2
    have:j=i:=by
     rcases Wq (j - p.2.length) 1 with q | q
     ·omega
     ·rw [Wf (by simpa using q)] at h2;cases h2
    subst this
    rw [hlen,V4] at h2
    injection h2 with h2
    rw [Wa hi] at h1
    injection h1 with h1
    rw [<- h1,<- h2]
    exact m3
  ·rcases Wk.1 hv with hv | hv
   ·exact hu v hv
   ·rw [Wl.1 hv];exact m4
  ·refine .atN hi ?_
   refine .call (move_c m1) ?_
   refine .pos (show (mv1 L p.1 words[i]).1.s.ws.length=p.1.s.ws.length from m2.wl.trans hI.wl.symm) (.pos (show (mv1 L p.1 words[i]).1.s.fs.length=p.1.s.fs.length from m2.fl.trans hI.fl.symm) (.pos (XD (l:=p.2) Oo Oo) (.some rfl)))
 obtain ⟨rfl,⟨T1,M1,hI1⟩,hlen,himg,hu⟩:=hb
 let mk2:EvS->Int->List Int×List Fe×Int×List Inc×Int×Int×Int×Int×Int×List Mov×Int×Int:=λt i=>(t.s.ws,t.s.fs,t.s.sh,L,t.to.seq,t.to.belt,t.to.first,t.to.last,t.to.words,t.mv,0,i)
 generalize hst1:(runW L ⟨s0,T0.i,[]⟩ words).1=st1 at hI1 himg
 have eE:runE L s0 T0.i words=(scanN L 20000 0 st1,(runW L ⟨s0,T0.i,[]⟩ words).2):=by unfold runE;rw [hst1]
 rw [eE]
 generalize (runW L ⟨s0,T0.i,[]⟩ words).2=out at hlen himg hu
 refine Gd.bind (P:=λb=>∃ st T M,b=(st.s.ws,st.s.fs,st.s.sh,L,st.to.seq,st.to.belt,st.to.first,st.to.last,st.to.words,st.mv,(0:Int))/\st=scanN L 20000 0 st1/\Jp s0 C K T0 M.length 0 st T M/\∃ l,st.mv=st1.mv++l) ?_ λb hb=>?_
 ·refine Gd.loop (λx=>∃ (k:Nat) (st:EvS) (T:Itm) (M:List (Nat×Nat×Nat)),x=mk2 st (k:Int)/\Jp s0 C K T0 k 0 st T M/\k<=M.length/\scanN L 20000 0 st1=scanN L (20000 - k) k st/\∃ l,st.mv=st1.mv++l) _ (λx=>20000 - x.2.2.2.2.2.2.2.2.2.2.2.toNat) ⟨0,st1,T1,M1,rfl,hI1,W9 _,rfl,[],Os⟩ ?_
  rintro x ⟨k,st,T,M,rfl,hI,hk,hs,l0,hl0⟩
  obtain ⟨hM,hmv⟩:=ev_len hC hI
  have hf:20000 - k=(20000 - (k+1))+1:=by omega
  refine .ite (λhlt=>?_) λhge=>?_
  ·have hlt:k < M.length:=by
    have:(k:Int) < (st.mv.length:Int):=hlt
    omega
   refine .pos rfl ?_
   obtain ⟨o,hj⟩:∃ o,(nob T0.i.words.toNat M)[k]?=some o:=⟨_,Wa (by rw [QcU];exact hlt)⟩
   have hom:=Wp hj
   have hmk:st.mv[k]?=some ⟨(o.1:Int),((adr (szS s0) T.fr o.2.1:Nat):Int)⟩:=by
    rw [hI.mv]
    unfold Qee
    rw [Wg,hj]
    rfl
   obtain ⟨hkl,hmk2⟩:=Wi.1 hmk
   obtain ⟨hfl,_⟩:=ev_fields hC hI hom
   have hin:=Jg M _ o hom
   have hr15:o.2.2.1<=15:=by
    obtain ⟨x,hx,q,hq',e⟩:=hI.src _ (Qed M _ o hom)
    exact (Itm.posOk hC.ok (hC.cs x hx) hq').2.1
   have hroom:=Qbq hI
   have hz:=hC.z0
   have hwl:=XT hI.ok
   have hal:=ev_adr hI (q:=o.2.1) Oo
   have hsc:Qbd L st k=((List.range o.2.2.1).map λj=>((adr (szS s0) T.fr (o.2.1+(j+1)):Nat):Int)).foldl (fldSt L) st:=by
    unfold Qbd
    rw [hmk]
    dsimp only
    rw [hfl]
   have es:(⟨s0.sh,st.s.ws,st.s.fs⟩:Sp)=st.s:=by rw [<- hI.sh]
   refine Gd.bind (P:=λb=>∃ T' N,b=((Qbd L st k).s.ws,(Qbd L st k).s.fs,(Qbd L st k).s.sh,L,(Qbd L st k).to.seq,(Qbd L st k).to.belt,(Qbd L st k).to.first,(Qbd L st k).to.last,(Qbd L st k).to.words,(Qbd L st k).mv,(0:Int))/\Jp s0 C K T0 k o.2.2.1 (Qbd L st k) T' (M++N)/\∃ l,(Qbd L st k).mv=st.mv++l) ?_ λb hb=>?_
   ·refine .at (l:=st.mv) (i:=(k:Int)) Oo (by simpa using hkl) ?_
    have hmk3:st.mv[((k:Int)).toNat]'(by simpa using hkl)=⟨(o.1:Int),((adr (szS s0) T.fr o.2.1:Nat):Int)⟩:=by simpa using hmk2
    rw [hmk3]
    refine .call (a:=FldR st.s ((adr (szS s0) T.fr o.2.1:Nat):Int)) (by
     show Q5 ⟨s0.sh,st.s.ws,st.s.fs⟩ _=_
     rw [es]
     exact fields_c hI.ok.shp (Z1 hI.ok.fm) hI.w (by unfold I64;dsimp only;omega)) ?_
    rw [hfl,hsc]
    dsimp only
    refine Gd.fold ((List.range o.2.2.1).map λj=>((adr (szS s0) T.fr (o.2.1+(j+1)):Nat):Int)) mk2 (fldSt L) st (λj t=>∃ T' N,Jp s0 C K T0 k j t T' (M++N)/\(∃ l,T'.fr=T.fr++l)/\∃ l,t.mv=st.mv++l) rfl (λ_ _=>rfl) (by rw [Wb,WM];omega)
     ⟨T,[],by rw [VQ];exact hI,⟨[],Os⟩,⟨[],Os⟩⟩ (λj hjl t ht=>?_) (λht=>?_)
    ·rw [Wb,WM] at hjl
     obtain ⟨T',N,h1,⟨l,h2⟩,⟨l2,h3⟩⟩:=ht
     have hq:((List.range o.2.2.1).map λj=>((adr (szS s0) T.fr (o.2.1+(j+1)):Nat):Int))[j]'(by rw [Wb,WM];exact hjl)=((adr (szS s0) T'.fr (o.2.1+(j+1)):Nat):Int):=by
      rw [W5,Yh,h2,ZO Oo Oo]
     obtain ⟨f1,f2,f3,f4,f5,T'',N',f6,⟨l',f7⟩,⟨l2',f8⟩⟩:=ev_field hC h1 (nob_pre hj) Oo hq
     rw [hL] at f1 f4 f5 f6 f8
     refine ⟨⟨T'',N++N',by rw [<- WX];exact f6,⟨l++l',by rw [f7,h2,WX]⟩,⟨l2++l2',by rw [f8,h3,WX]⟩⟩,?_⟩
     refine .atN (by rw [Wb,WM];exact hjl) ?_
     generalize ((List.range o.2.2.1).map λj=>((adr (szS s0) T.fr (o.2.1+(j+1)):Nat):Int))[j]'(by rw [Wb,WM];exact hjl)=q at f1 f2 f3 f4 f5 f6 f8 ⊢
     refine .at f2 f3 ?_
     rw [show (mk2 t (j:Int)).1[q.toNat]'f3=wAt t.s q from (wAt_at f2 f3).symm]
     refine .call (move_c f1) (.pos f4 (.pos f5 (.at f2 (by show q.toNat < (mv1 L t (wAt t.s q)).1.s.ws.length;rw [f4];exact f3) (.some rfl))))
    ·rw [Wb,WM] at ht
     obtain ⟨T',N,h1,_,h3⟩:=ht
     exact ⟨T',N,rfl,h1,h3⟩
   ·obtain ⟨T',N,rfl,h1,⟨l,h2⟩⟩:=hb
    have h3:=ev_next h1 (nob_pre hj) rfl
    refine .go ⟨k+1,Qbd L st k,T',M++N,?_,h3,by rw [Wn];omega,?_,l0++l,by rw [h2,hl0,WX]⟩ ?_
    ·show _=mk2 (Qbd L st k) _
     rw [show w64 ((mk2 st (k:Int)).2.2.2.2.2.2.2.2.2.2.2+1)=((k+1:Nat):Int) from Qd (by show _<=(k:Int)+1/\(k:Int)+1<=_;omega)]
    ·rw [hs,hf]
     show (if k < st.mv.length then scanN L (20000 - (k+1)) (k+1) (Qbd L st k) else st)=_
     rw [if_pos hkl]
    ·show 20000 - (w64 ((k:Int)+1)).toNat < 20000 - ((k:Int)).toNat
     rw [Qd (n:=(k:Int)+1) Oo]
     omega
  ·have hge:¬ k < st.mv.length:=λc=>hge (by show (k:Int) < (st.mv.length:Int);omega)
   have hkM:k=M.length:=by omega
   refine .out ⟨st,T,M,rfl,?_,by rw [<- hkM];exact hI,l0,hl0⟩
   rw [hs,hf]
   show st=if k < st.mv.length then _ else st
   rw [if_neg hge]
 ·obtain ⟨st,T,M,rfl,hst,hI,l,hl⟩:=hb
  refine .some ⟨by rw [<- hst],T,M,by rw [<- hst];exact hI,hlen,λj w v h1 h2=>?_,hu⟩
  rw [<- hst]
  exact (himg j w v h1 h2).mono λm hm=>by rw [hl];exact We _ hm
end
theorem wu_u(x:Int):0<=wu x/\wu x<=18446744073709551615:=by
 unfold wu
 rw [IntKind.wrap_u64]
 omega
def QcD(x:Nat):Prop:=x=0\/(Qez .gtr x 0=true/\Qez .leq x 4607182418800017408=true)
theorem valid06_c{x:Nat}(h:QcD x):Xn x=some true:=by
 refine Gd.eq ?_
 unfold Xn
 rcases h with h | ⟨h1,h2⟩
 ·exact .pos Oo (.some rfl)
 ·exact .ite (λ_=>.some rfl) λ_=>.pos h1 (.some h2)
structure QcM(c:Cfg):Prop where
 name:Zj c.name=some true
 len:1<=c.rules.length/\c.rules.length<=4
 rule:∀ b (h:b < c.rules.length),QcD c.rules[b].share/\(0<=c.rules[b].limit/\c.rules[b].limit<=64)/\(0<=c.rules[b].batch/\c.rules[b].batch<=64)/\(b+1=c.rules.length->c.rules[b].limit=0/\c.rules[b].target=b)/\(b+1 < c.rules.length->b < c.rules[b].target/\c.rules[b].target < c.rules.length)
 aim:∀ b,0 < b->b < c.rules.length->∃ b',∃ h:b' < c.rules.length,b'+1 < c.rules.length/\c.rules[b'].target=b
 full:∀ h:c.rules.length - 1 < c.rules.length,if Qez .eql c.rules[c.rules.length - 1].share 0=true then 1<=c.full/\c.full<=64 else c.full=0
theorem check_c{c:Cfg}(h:QcM c):Zk c=some 0:=by
 obtain ⟨hn,⟨l1,l4⟩,hr,ha,hf⟩:=h
 have hl:c.rules.length - 1 < c.rules.length:=by omega
 have e1:w64 ((c.rules.length:Int) - 1)=((c.rules.length - 1:Nat):Int):=by rw [Qd Oo];omega
 refine Gd.eq ?_
 unfold Zk
 refine .call hn (.pos rfl (.neg Oo (.neg Oo ?_)))
 refine Gd.bndR (P:=λz=>∃ l:List Bool,z = .inl l/\l.length=4/\∀ b,b < c.rules.length->l[b]?=some true) ?_ (λl hP=>?_) (λr hP=>by obtain ⟨l,h,_⟩:=hP;cases h)
 ·refine Gd.for c.rules.length (λ(t:List Bool) i=>(t,i)) (λi t=>t.length=4/\t[0]?=some true/\∀ b',(h:b' < c.rules.length)->b' < i->b'+1 < c.rules.length->t[c.rules[b'].target.toNat]?=some true) [true,false,false,false] rfl (λ_ _=>rfl) Oo ⟨rfl,rfl,λb' _ h=>absurd h (Vo _)⟩ (λi hi t ht=>?_) (λt ht=>?_)
  ·obtain ⟨t1,t2,t3⟩:=ht
   obtain ⟨r1,r2,r3,r4,r5⟩:=hr i hi
   refine .atN hi (.call (valid06_c r1) (.pos rfl (.neg Oo (.neg Oo (.neg Oo (.neg Oo ?_))))))
   rw [e1]
   refine .ite (λhc=>?_) λhc=>?_
   ·have hc:i+1=c.rules.length:=by dsimp only at hc;omega
    obtain ⟨q1,q2⟩:=r4 hc
    exact .pos q1 (.pos q2 (.some (.inl ⟨t,rfl,t1,t2,λb' hb h2 h3=>t3 b' hb Oo h3⟩)))
   ·have hc:i+1 < c.rules.length:=by dsimp only at hc;omega
    obtain ⟨q1,q2⟩:=r5 hc
    have hb:c.rules[i].target.toNat < t.length:=by omega
    refine .neg (by dsimp only;omega) (.neg Oo (.pos Oo (.at (l:=t) Oo hb (.some (.inl ⟨t.set c.rules[i].target.toNat true,rfl,by rw [Ww];exact t1,?_,λb' hb' h2 h3=>?_⟩)))))
    ·rw [WA Oo];exact t2
    ·by_cases e:c.rules[i].target.toNat=c.rules[b'].target.toNat
     ·rw [<- e,WB hb]
     ·rw [WA e]
      refine t3 b' hb' ?_ h3
      rcases Wq b' i with q | q
      ·exact q
      ·exact absurd (by congr;omega) e
  ·obtain ⟨t1,t2,t3⟩:=ht
   refine ⟨t,rfl,t1,λb hb=>?_⟩
   rcases Ue b with rfl | h0
   ·exact t2
   ·obtain ⟨b',hb',h1,h2⟩:=ha b h0 hb
    have:=t3 b' hb' hb' h1
    rwa [h2] at this
 ·obtain ⟨l',h,h4,hall⟩:=hP
  injection h with h
  subst h
  refine Gd.bndR (P:=λz=>z = .inl ()) ?_ (λ_ _=>?_) (λr hP=>by cases hP)
  ·refine Gd.for c.rules.length (λ(_:Unit) i=>i) (λ_ _=>True) () rfl (λ_ _=>rfl) Oo trivial (λi hi t ht=>?_) (λt ht=>rfl)
   have:=hall i hi
   obtain ⟨h1,h2⟩:=Wi.1 this
   exact .pos Oo (.atN h1 (.pos h2 (.some (.inl ⟨(),rfl,trivial⟩))))
  ·rw [e1]
   refine .atN hl ?_
   have hf:=hf hl
   refine .ite (λh=>?_) λh=>?_
   ·rw [if_pos h] at hf
    exact .neg Oo (.neg Oo (.some rfl))
   ·rw [if_neg h] at hf
    exact .pos hf (.some rfl)
def CplP(c:Cfg):Prop:=∃ h:c.rules.length - 1 < c.rules.length,Qez .eql c.rules[c.rules.length - 1].share 0=true
theorem QbN{c:Cfg}(h:QcM c):QH c=some (bP (CplP c)):=by
 have hl:=h.len
 have e1:w64 ((c.rules.length:Int) - 1)=((c.rules.length - 1:Nat):Int):=by rw [Qd Oo];omega
 refine Gd.eq ?_
 unfold QH
 refine .call (check_c h) (.pos rfl ?_)
 rw [e1]
 refine .atN Oo ?_
 refine Gd.b (p:=CplP c) ⟨λk=>⟨Oo,k⟩,λ⟨_,k⟩=>k⟩
theorem frames06_c{x:Nat}(h:QcD x){n:Int}(hn:1<=n/\n<=64):∃ v,ZV x n=some (v,0):=by
 suffices h:Gd (λr:Int×Int=>r.2=0) (ZV x n) by
  obtain ⟨r,h1,h2⟩:=h
  exact ⟨r.1,by rw [h1,<- h2]⟩
 have hwu:∀ y,0<=wu y:=λy=>(wu_u y).1
 unfold ZV
 refine .call (valid06_c h) (.pos rfl (.neg Oo (.neg Oo ?_)))
 refine .ite (λ_=>.some rfl) λ_=>?_
 refine .ite (λ_=>?_) λ_=>?_
 ·refine .ite (λ_=>.pos (hwu _) (.some rfl)) λ_=>.some rfl
 ·exact .ite (λ_=>.pos (hwu _) (.some rfl)) λ_=>.some rfl
noncomputable def capV(c:Cfg)(b n:Int):Int:=((Z7 c b n).getD (0,0)).1
theorem cap_c{c:Cfg}(h:QcM c){b n:Int}(hb:0<=b/\b < c.rules.length)(hn:1<=n/\n<=64):Z7 c b n=some (capV c b n,0):=by
 have hbl:b.toNat < c.rules.length:=by omega
 obtain ⟨v,hv⟩:=frames06_c (h.rule b.toNat hbl).1 hn
 have:Z7 c b n=some (v,0):=by
  refine Gd.eq ?_
  unfold Z7
  refine .call (check_c h) (.pos rfl (.neg Oo (.neg Oo (.neg Oo (.neg Oo (.at hb.1 hbl (.call hv (.some rfl))))))))
 unfold capV
 rw [this]
 rfl
def JE(z:Nat)(L:List Itm)(q:Nat):Prop:=∃ x∈L,∃ p r d,(p,r,d)∈obs 0 x.os/\∃ k,1<=k/\k<=r/\q=adr z x.fr (p+k)
def RefW(z:Nat)(L:List Itm)(w:Int):Prop:=w=0\/(1<=w/\∃ r d,ObjZ z L (w - 1).toNat r d)
structure QD(h:Hp)(BL:List (List Itm)):Prop where
 cfg:QcM h.config
 bl:h.belts=BL.map λq=>q.map Itm.i
 bn:BL.length=h.config.rules.length
 sp:Qa7 h.space BL.flatten
 pos:∀ x∈BL.flatten,1<=x.i.words
 blt:∀ b (hb:b < BL.length),∀ x∈BL[b],x.i.belt=(b:Int)
 asc:∀ q∈BL,q.Pairwise λx y=>x.i.seq < y.i.seq
 sq:∀ x∈BL.flatten,x.i.seq < h.seq
 sq0:0<=h.seq
 rts:Qar h.roots
 roots:∀ i∈Q7 h.roots,1<=Qr h.roots i/\∃ r d,ObjZ (szS h.space) BL.flatten (Qr h.roots i - 1).toNat r d
 refs:∀ q,JE (szS h.space) BL.flatten q->RefW (szS h.space) BL.flatten (wAt h.space (q:Int))
 sok:Qy h.sets
 sin:Z3 h.sets
 snd:∀ f t q,InS h.sets f t q->JE (szS h.space) BL.flatten q.toNat/\f=(Jf h.space q:Int)/\∃ (h2:t.toNat < h.space.fs.length),0<=t/\¬ h.space.fs[t.toNat].ow = -1
 cmp:∀ q,JE (szS h.space) BL.flatten q->Qa8 h.space (q:Int) (wAt h.space (q:Int))->InS h.sets (Jf h.space (q:Int):Int) (Jf h.space (wAt h.space (q:Int) - 1):Int) (q:Int)
 resv:CplP h.config->2 * (h.space.fs.length - (Qj h.space.fs).length)<=h.space.fs.length
section
variable{h:Hp}{BL:List (List Itm)}
theorem QD.flat(H:QD h BL):h.belts.flatten=BL.flatten.map Itm.i:=by
 rw [H.bl,U7]
theorem QD.dist(H:QD h BL):h.belts.flatten.Pairwise λx y=>x.seq≠y.seq:=by
 rw [H.flat,Vh]
 exact H.sp.seqs
theorem QD.count(H:QD h BL):BL.flatten.length<=64:=by
 have key:∀ (L:List Itm),(∀ x∈L,JN h.space x)->L.Pairwise (λx y=>x.i.seq≠y.i.seq)->(∀ x∈L,1<=x.i.words)->(L.map λx=>(x.fr.head?).getD 0).Nodup/\∀ x∈L,(x.fr.head?).getD 0 < h.space.fs.length:=by
  intro L
  have hne:∀ x,JN h.space x->1<=x.i.words->∃ f l,x.fr=f :: l:=λx hx hp=>by
   cases e:x.fr with
   | cons f l=>exact ⟨f,l,rfl⟩
   | nil =>
    have:=hx.inc.room H.sp.ok
    rw [e] at this
    simp at this
    omega
  induction L with
  | nil=>intro _ _ _;exact ⟨Os,λx hx=>absurd hx (Vr)⟩
  | cons x L ih =>
   intro h1 h2 h3
   have h4:=Vf.1 h2
   obtain ⟨i1,i2⟩:=ih (λy hy=>h1 y (Wm _ hy)) h4.2 λy hy=>h3 y (Wm _ hy)
   obtain ⟨f,l,e⟩:=hne x (h1 x (Wz ..)) (h3 x (Wz ..))
   have hx:=(h1 x (Wz ..)).inc.toIncC
   refine ⟨?_,λy hy=>?_⟩
   ·rw [W3,Uv]
    refine ⟨λhm=>?_,i1⟩
    obtain ⟨y,hy,ey⟩:=Wj.1 hm
    obtain ⟨g,m,e2⟩:=hne y (h1 y (Wm _ hy)) (h3 y (Wm _ hy))
    have hy1:=(h1 y (Wm _ hy)).inc.toIncC
    rw [e,e2] at ey
    simp at ey
    refine hx.disj hy1 (h4.1 y hy) f (by rw [e];simp) ?_
    rw [e2,<- ey];simp
   ·rcases Wv.1 hy with rfl | hy
    ·rw [e]
     exact hx.ch.lt f (by rw [e];simp)
    ·exact i2 y hy
 obtain ⟨k1,k2⟩:=key BL.flatten H.sp.each H.sp.seqs H.pos
 have:=nodup_len k1 (n:=h.space.fs.length) λf hf=>by
  obtain ⟨x,hx,rfl⟩:=Wj.1 hf
  exact k2 x hx
 rw [Wb] at this
 have:=H.sp.ok.shp.hi
 omega
theorem Qbg{α:Type}{q:List α}:∀ {L:List (List α)},q∈L->q.length<=L.flatten.length
 | a :: L,h=>by
  rw [Va,Wn]
  rcases Wv.1 h with rfl | h
  ·omega
  ·have:=Qbg h;omega
theorem QD.bsz(H:QD h BL):BSz h.belts:=by
 have h1:=H.cfg.len
 have h2:=H.count
 rw [H.bl]
 refine ⟨by rw [Wb,H.bn];omega,λq hq=>?_⟩
 obtain ⟨p,hp,rfl⟩:=Wj.1 hq
 have:=Qbg hp
 rw [Wb]
 omega
theorem QD.wd(H:QD h BL):WdIn h.belts:=by
 rw [H.bl]
 intro q hq x hx
 obtain ⟨p,hp,rfl⟩:=Wj.1 hq
 obtain ⟨y,hy,rfl⟩:=Wj.1 hx
 have h1:=(H.sp.each y (Vc.2 ⟨p,hp,hy⟩)).inc.wd
 have:=XT H.sp.ok
 omega
theorem QD.bl_at(H:QD h BL){b:Nat}(hb:b < BL.length):h.belts[b]?=some (BL[b].map Itm.i):=by
 rw [H.bl,Wg,Wa hb];rfl
end
def PrefP(all:List Inc)(q:List Int):Prop:=q.length<=all.length/\q.Nodup/\(∀ s∈q,∃ x∈all.take q.length,x.seq=s)/\∀ x∈all.take q.length,x.seq∈q
theorem any_loop{α:Type}{l:List α}{p:α->Bool}(hl:l.length<=9223372036854775806){K:Bool->α->Bool}(hK:∀ b x,K b x=(b || p x)) :
  Gd (λb=>b=l.any p) (Qi (λ(s:Bool×Int)=>if s.2 < (l.length:Int) then ((at_ l s.2).bind λv=>if s.1=true then (some (LS.go ((true,w64 (s.2+1))))) else some (LS.go ((p v,w64 (s.2+1))))) else some (LS.out (s.1))) (false,0)):=by
 refine Gd.for l.length (λ(t:Bool) i=>(t,i)) (λi t=>t=(l.take i).any p) false rfl (λ_ _=>rfl) hl Os (λi hi t ht=>?_) (λt ht=>by rw [WH] at ht;exact ht)
 refine .atN hi ?_
 have e:(l.take (i+1)).any p=((l.take i).any p || p l[i]):=by rw [QF hi,List.any_append];simp
 refine .ite (λh=>.some (.inl ⟨true,rfl,?_⟩)) λh=>.some (.inl ⟨_,rfl,?_⟩)
 ·have h:t=true:=h
  rw [e,<- ht,h];rfl
 ·have h:t=false:=by simpa using h
  rw [e,<- ht,h];rfl
theorem prefix_c{B:List (List Inc)}(hB:BSz B)(q:List Int)(hq:q.length<=1000000):Xt B q=some (bP (PrefP B.flatten q)):=by
 have hfl:=hB.flat
 refine Gd.eq ?_
 unfold Xt
 refine .call (all15_c hB) ?_
 refine .ite (λh=>.f λk=>by have:=k.1;omega) λhlen=>?_
 have hlen:q.length<=B.flatten.length:=by omega
 have etk:(B.flatten.take (Int.toNat (q.length:Int))).drop (Int.toNat 0)=B.flatten.take q.length:=by rw [Wc];rfl
 have hcond:(0:Int)<=0/\0<=(q.length:Int)/\(q.length:Int)<=(B.flatten.length:Int):=⟨Oo,Oo,Oo⟩
 have htl:(B.flatten.take q.length).length=q.length:=by rw [Ws];omega
 refine Gd.bndR (P:=λz=>(z = .inl ()/\q.Nodup/\∀ s∈q,∃ x∈B.flatten.take q.length,x.seq=s)\/(z = .inr false/\¬ PrefP B.flatten q)) ?_ (λ_ hP=>?_) (λr hP=>?_)
 ·refine Gd.for q.length (λ(_:Unit) i=>i) (λi _=>(q.take i).Nodup/\∀ s∈q.take i,∃ x∈B.flatten.take q.length,x.seq=s) () rfl (λ_ _=>rfl) Oo ⟨Os,Os⟩ (λi hi t ht=>?_) (λt ht=>?_)
  ·refine Gd.bndR (P:=λz=>(z = .inl ()/\q[i]∉q.take i/\∃ x∈B.flatten.take q.length,x.seq=q[i])\/(z = .inr (.out (.inr false))/\¬ PrefP B.flatten q)) ?_ (λ_ hP=>?_) (λr hP=>?_)
   ·refine .atN hi ?_
    refine Gd.bndR (P:=λz=>(z = .inl ()/\q[i]∉q.take i)\/(z = .inr (.inr (.out (.inr false)))/\¬ PrefP B.flatten q)) ?_ (λ_ hP=>?_) (λr hP=>?_)
    ·refine Gd.for i (λ(_:Unit) i=>i) (λj _=>∀ k (hk:k < q.length),k < j->q[k]≠q[i]) () rfl (λ_ _=>rfl) Oo (λk _ h=>absurd h (Vo _)) (λj hj t ht'=>?_) (λt ht'=>.inl ⟨rfl,λhm=>?_⟩)
     ·refine .atN (show j < q.length by omega) (.ite (λh=>.some (.inr ⟨_,rfl,.inr ⟨rfl,λk=>?_⟩⟩)) λh=>.some (.inl ⟨(),rfl,λk hk h2=>?_⟩))
      ·have:=Wx.1 (W1.1 k.2.1) j i Oo hi hj
       exact this h
      ·by_cases e:k=j
       ·subst e;exact h
       ·exact ht' k hk Oo
     ·obtain ⟨k,hk,e⟩:=WQ.1 hm
      rw [Ws] at hk
      rw [Yt] at e
      exact ht' k Oo Oo e
    ·rcases hP with ⟨_,hn⟩ | ⟨h,_⟩
     ·rw [if_pos hcond,etk]
      refine Gd.bind (P:=λb=>b=(B.flatten.take q.length).any λx=>decide (x.seq=q[i])) (any_loop Oo (K:=λb x=>b || decide (x.seq=q[i])) λ_ _=>rfl) λb hb=>?_
      refine .ite (λh=>.some (.inl ⟨rfl,hn,?_⟩)) λh=>.some (.inr ⟨rfl,λk=>?_⟩)
      ·rw [hb,Up] at h
       obtain ⟨x,hx,e⟩:=h
       exact ⟨x,hx,by simpa using e⟩
      ·apply h
       rw [hb,Up]
       obtain ⟨x,hx,e⟩:=k.2.2.1 _ (Wd hi)
       exact ⟨x,hx,by simpa using e⟩
     ·cases h
    ·rcases hP with ⟨h,_⟩ | ⟨h,hP⟩
     ·cases h
     ·injection h with h;exact .inr ⟨h,hP⟩
   ·rcases hP with ⟨_,h1,h2⟩ | ⟨h,_⟩
    ·refine .some (.inl ⟨(),rfl,?_,λs hs=>?_⟩)
     ·rw [QF hi,V7]
      refine ⟨ht.1,Os,λa ha b hb=>?_⟩
      rw [Wl.1 hb]
      rintro rfl
      exact h1 ha
     ·rw [QF hi] at hs
      rcases Wk.1 hs with hs | hs
      ·exact ht.2 s hs
      ·rw [Wl.1 hs];exact h2
    ·cases h
   ·rcases hP with ⟨h,_⟩ | ⟨h,hP⟩
    ·cases h
    ·injection h with h;exact .inr ⟨_,h,.inr ⟨rfl,hP⟩⟩
  ·rw [WH] at ht
   exact .inl ⟨rfl,ht⟩
 ·rcases hP with ⟨_,hn,hs⟩ | ⟨h,_⟩
  ·rw [if_pos hcond,etk]
   refine Gd.bndR (P:=λz=>(z = .inl ()/\∀ x∈B.flatten.take q.length,x.seq∈q)\/(z = .inr false/\¬ PrefP B.flatten q)) ?_ (λ_ hP=>?_) (λr hP=>?_)
   ·refine Gd.for (B.flatten.take q.length).length (λ(_:Unit) i=>i) (λi _=>∀ k (hk:k < (B.flatten.take q.length).length),k < i->(B.flatten.take q.length)[k].seq∈q) () rfl (λ_ _=>rfl) Oo (λk _ h=>absurd h (Vo _)) (λi hi t ht=>?_) (λt ht=>.inl ⟨rfl,λx hx=>?_⟩)
    ·refine Gd.bndR (P:=λz=>(z = .inl ()/\(B.flatten.take q.length)[i].seq∈q)\/(z = .inr (.out (.inr false))/\¬ PrefP B.flatten q)) ?_ (λ_ hP=>?_) (λr hP=>?_)
     ·refine .atN hi ?_
      refine Gd.bind (P:=λb=>b=q.any λs=>decide ((B.flatten.take q.length)[i].seq=s)) (any_loop Oo (K:=λb x=>b || decide ((B.flatten.take q.length)[i].seq=x)) λ_ _=>rfl) λb hb=>?_
      refine .ite (λh=>.some (.inl ⟨rfl,?_⟩)) λh=>.some (.inr ⟨rfl,λk=>?_⟩)
      ·rw [hb,Up] at h
       obtain ⟨x,hx,e⟩:=h
       have e:(B.flatten.take q.length)[i].seq=x:=by simpa using e
       rw [e];exact hx
      ·apply h
       rw [hb,Up]
       exact ⟨_,k.2.2.2 _ (Wd hi),Os⟩
     ·rcases hP with ⟨_,h1⟩ | ⟨h,_⟩
      ·refine .some (.inl ⟨(),rfl,λk hk h2=>?_⟩)
       by_cases e:k=i
       ·subst e;exact h1
       ·exact ht k hk Oo
      ·cases h
     ·rcases hP with ⟨h,_⟩ | ⟨h,hP⟩
      ·cases h
      ·injection h with h;exact .inr ⟨_,h,.inr ⟨rfl,hP⟩⟩
    ·obtain ⟨k,hk,rfl⟩:=WQ.1 hx
     exact ht k hk hk
   ·rcases hP with ⟨_,h1⟩ | ⟨h,_⟩
    ·exact .t ⟨hlen,hn,hs,h1⟩
    ·cases h
   ·rcases hP with ⟨h,_⟩ | ⟨h,hP⟩
    ·cases h
    ·injection h with h;rw [h,bP_f hP]
  ·cases h
 ·rcases hP with ⟨h,_⟩ | ⟨h,hP⟩
  ·cases h
  ·injection h with h;rw [h,bP_f hP]
theorem inc_eq{x y:Inc}:([x.seq,x.belt,x.first,x.last,x.words]:List Int)=[y.seq,y.belt,y.first,y.last,y.words]<->x=y:=by
 constructor
 ·intro h
  cases x;cases y
  simp only [Yb,and_true] at h
  obtain ⟨h1,h2,h3,h4,h5⟩:=h
  subst h1;subst h2;subst h3;subst h4;subst h5
  rfl
 ·rintro rfl;rfl
def TgtP(B:List (List Inc))(l:List Inc):Prop:=∃ h:0 < l.length,(∀ x∈l,B.flatten.find? (λy=>decide (y.seq=x.seq))=some x/\x.belt=l[0].belt)/\PrefP B.flatten (l.map Inc.seq)
noncomputable def tgtI(h:Hp)(l:List Inc):Inc :=
 let t:=((h.config.rules[((l.head?).getD inc0).belt.toNat]?).map Rul.target).getD 0
 match yngR h.belts t with
 | none=>⟨h.seq,t,-1,-1,0⟩
 | some y=>if (l.any λx=>decide (x.seq=y.seq))=false/\(capV h.config t h.space.fs.length=0\/y.words < w64 (capV h.config t h.space.fs.length * (szS h.space:Int))) then y else ⟨h.seq,t,-1,-1,0⟩
theorem target_c{h:Hp}{BL:List (List Itm)}(H:QD h BL)(l:List Inc)(hl:l.length<=1000000):ZQ h l=some (open Classical in if TgtP h.belts l then (tgtI h l,0) else (inc0,1)):=by
 have hB:=H.bsz
 have hcl:=H.cfg.len
 have h64:=H.sp.ok.shp.hi
 have h2:=H.sp.ok.shp.lo
 refine Gd.eq ?_
 unfold ZQ
 refine Gd.bndR (P:=λz=>(z = .inl (l.map Inc.seq)/\∀ x∈l,h.belts.flatten.find? (λy=>decide (y.seq=x.seq))=some x/\∀ h0:0 < l.length,x.belt=l[0].belt)\/(z = .inr (inc0,1)/\¬ TgtP h.belts l)) ?_ (λb hP=>?_) (λr hP=>?_)
 ·refine Gd.for l.length (λ(t:List Int) i=>(t,i)) (λi t=>t=(l.take i).map Inc.seq/\∀ x∈l.take i,h.belts.flatten.find? (λy=>decide (y.seq=x.seq))=some x/\∀ h0:0 < l.length,x.belt=l[0].belt) [] rfl (λ_ _=>rfl) Oo ⟨Os,Os⟩ (λi hi t ht=>?_) (λt ht=>?_)
  ·obtain ⟨t1,t2⟩:=ht
   have tl:t.length<=1000000:=by rw [t1,Wb,Ws];omega
   have hin:l[i]∈l:=Wd hi
   refine .atN hi (.call (find11_c hB _) ?_)
   cases hf:h.belts.flatten.find? (λy=>decide (y.seq=l[i].seq)) with
   | none=>exact .neg (by simp [optI]) (.some (.inr ⟨_,rfl,.inr ⟨rfl,λ⟨_,k,_⟩=>by have:=(k _ hin).1;rw [hf] at this;cases this⟩⟩))
   | some y =>
    refine .pos rfl ?_
    refine .ite (λhe=>?_) λhe=>.some (.inr ⟨_,rfl,.inr ⟨rfl,λ⟨_,k,_⟩=>?_⟩⟩)
    ·have he:y=l[i]:=inc_eq.1 he
     subst he
     refine .at0 Oo (.ite (λhb=>.pos (XD (l:=t) tl Oo) (.some (.inl ⟨_,rfl,?_,λx hx=>?_⟩))) λhb=>.some (.inr ⟨_,rfl,.inr ⟨rfl,λ⟨_,k,_⟩=>hb (k _ hin).2⟩⟩))
     ·rw [QF hi,WF,t1];rfl
     ·rw [QF hi] at hx
      rcases Wk.1 hx with hx | hx
      ·exact t2 x hx
      ·rw [Wl.1 hx];exact ⟨hf,λ_=>hb⟩
    ·apply he
     have:=(k _ hin).1
     rw [hf] at this
     injection this with this
     exact inc_eq.2 this
  ·obtain ⟨t1,t2⟩:=ht
   rw [WH] at t1 t2
   exact .inl ⟨by rw [t1],t2⟩
 ·rcases hP with ⟨hb,hP⟩ | ⟨hb,_⟩
  ·injection hb with hb
   subst hb
   refine .ite (λh0=>.some (by rw [if_neg λ⟨k,_⟩=>by omega])) λh0=>?_
   have hl0:0 < l.length:=by omega
   refine .call (prefix_c hB (l.map Inc.seq) (by rw [Wb];omega)) ?_
   refine .ite (λhp=>?_) λhp=>.some (by rw [if_neg λ⟨_,_,k⟩=>hp (Qc3 k)])
   have hT:TgtP h.belts l:=⟨hl0,λx hx=>⟨(hP x hx).1,(hP x hx).2 hl0⟩,ZI.1 hp⟩
   rw [if_pos hT]
   have hm0:l[0]∈h.belts.flatten:=VZ (hP _ (Wd hl0)).1
   obtain ⟨b,hbl,hbelt⟩:∃ b:Nat,b < h.config.rules.length/\l[0].belt=(b:Int):=by
    rw [H.flat] at hm0
    obtain ⟨x,hx,ex⟩:=Wj.1 hm0
    obtain ⟨q,hq,hxq⟩:=Vc.1 hx
    obtain ⟨b,hb,rfl⟩:=WQ.1 hq
    exact ⟨b,by rw [<- H.bn];exact hb,by rw [<- ex];exact H.blt b hb x hxq⟩
   obtain ⟨_,_,_,q4,q5⟩:=H.cfg.rule b hbl
   have ht:0<=h.config.rules[b].target/\h.config.rules[b].target < h.config.rules.length:=by
    rcases Wq (b+1) h.config.rules.length with c | c
    ·have:=q5 c;omega
    ·have:=(q4 Oo).2;omega
   have et:((h.config.rules[((l.head?).getD inc0).belt.toNat]?).map Rul.target).getD 0=h.config.rules[b].target:=by
    rw [U0,Wa hl0,Wy,hbelt,Wc,Wa hbl]
    rfl
   unfold tgtI
   rw [et]
   refine .at0 hl0 ?_
   rw [hbelt]
   refine .atN hbl ?_
   refine .call (cap_c H.cfg ht (n:=(h.space.fs.length:Int)) ⟨Oo,Oo⟩) ?_
   refine .call (QbF hB _) ?_
   dsimp only
   generalize h.config.rules[b].target=t at ht ⊢
   generalize capV h.config t h.space.fs.length=cp
   cases hy:yngR h.belts t with
   | none =>
    refine Gd.bind (P:=λb=>b=false) ?_ λb hb=>?_
    ·refine Gd.for l.length (λ(t:Bool) i=>(t,i)) (λi t=>t=false) false rfl (λ_ _=>rfl) Oo rfl (λi hi t ht=>?_) (λt ht=>by rw [ht])
     subst ht
     exact .atN hi (.neg Os (.some (.inl ⟨_,rfl,rfl⟩)))
    ·subst hb
     exact .neg Os (.some rfl)
   | some y =>
    rw [show optI (some y)=(y,true) from rfl]
    dsimp only
    refine Gd.bind (P:=λb=>b=!(l.any λx=>decide (x.seq=y.seq))) ?_ λb hb=>?_
    ·refine Gd.for l.length (λ(t:Bool) i=>(t,i)) (λi t=>t=!((l.take i).any λx=>decide (x.seq=y.seq))) true rfl (λ_ _=>rfl) Oo Os (λi hi t ht=>?_) (λt ht=>by rw [WH] at ht;rw [ht])
     have e:((l.take (i+1)).any λx=>decide (x.seq=y.seq))=(((l.take i).any λx=>decide (x.seq=y.seq)) || decide (l[i].seq=y.seq)):=by rw [QF hi,List.any_append];simp
     refine .atN hi (.ite (λhc=>.some (.inl ⟨_,rfl,?_⟩)) λhc=>.some (.inl ⟨_,rfl,?_⟩))
     ·have hc:t=true:=hc
      rw [ht] at hc
      have:((l.take i).any λx=>decide (x.seq=y.seq))=false:=by simpa using hc
      rw [e,this];rfl
     ·have hc:t=false:=by simpa using hc
      rw [ht] at hc
      have:((l.take i).any λx=>decide (x.seq=y.seq))=true:=by simpa using hc
      rw [e,this];rfl
    ·subst hb
     refine .ite (λha=>?_) λha=>?_
     ·have ha:(l.any λx=>decide (x.seq=y.seq))=false:=by simpa using ha
      refine .call (open_c H.sp.ok.shp.sh _ _) ?_
      refine .ite (λho=>.some ?_) λho=>.some ?_
      ·rw [if_pos ⟨ha,by simpa using ho⟩]
      ·rw [if_neg]
       rintro ⟨_,k⟩
       apply ho
       simpa using k
     ·refine .some ?_
      rw [if_neg]
      rintro ⟨k,_⟩
      apply ha
      rw [k];rfl
  ·cases hb
 ·rcases hP with ⟨h,_⟩ | ⟨h,hP⟩
  ·cases h
  ·injection h with h
   rw [if_neg hP]
   exact h
def Xu(d:Qc):Prop:=(∀ x∈d.l,I64 x)/\0<=d.pos/\d.l.length<=9223372036854775807
theorem next_spec{d:Qc}(h:Xu d){n:Int}(hn:1<=n/\n<=9223372036854775807):∃ v d',Qb d n=some (v,d')/\0<=v/\v < n/\Xu d':=by
 obtain ⟨h1,h2,h3⟩:=h
 unfold Qb
 by_cases hp:(d.l.length:Int)<=d.pos
 ·rw [if_pos hp]
  exact ⟨0,d,rfl,Oo,Oo,h1,h2,h3⟩
 ·rw [if_neg hp]
  have e1:w64 (d.pos+1)=d.pos+1:=Qd Oo
  have e2:w64 (d.pos+1 - 1)=d.pos:=by rw [Qd Oo];omega
  obtain ⟨v,hv,hm⟩:=at_ex (l:=d.l) h2 Oo
  rw [e1,e2,hv]
  simp only [WZ]
  rw [mod_c (h1 v hm) hn]
  refine ⟨v % n,_,rfl,V8 _ Oo,Ui _ Oo,h1,?_,h3⟩
  show 0<=d.pos+1
  omega
theorem new_spec{k n:Int}(hk:Qcg k)(hn:2<=n/\n<=64):J1 k n=some (newS k n.toNat,0):=by
 have hk0:=hk
 unfold Qcg at hk
 have hs:Zm k=some true:=by
  unfold Zm
  simp [hk.1,hk.2]
 unfold J1
 refine Qce hs ?_
 obtain ⟨e,he⟩:∃ e:Nat,k=e:=⟨k.toNat,Oo⟩
 obtain ⟨m,hm⟩:∃ m:Nat,n=m:=⟨n.toNat,Oo⟩
 subst he
 subst hm
 have hp:(2:Nat) ^ e<=2 ^ 8:=UC Od Oo
 have hp0:0 < (2:Nat) ^ e:=Nat.pow_pos Od
 have hmul:m * 2 ^ e<=64 * 256:=Uh Oo hp
 have hi:(m:Int) * 2 ^ e=((m * 2 ^ e:Nat):Int):=by push_cast;rfl
 have hsh:Qcq .i64 (m:Int) (e:Int)=((m * 2 ^ e:Nat):Int):=by rw [shl_pow Oo (by rw [hi];omega),hi]
 have hw:wu (e:Int)=(e:Int):=Jd Oo
 rw [if_pos rfl,if_neg Oo,if_neg Oo,hw,if_pos Oo,hsh,if_pos Oo,if_pos Oo]
 have lp:Qi (λ(s12:List Fe×Int) =>
   if s12.2 < ((List.replicate (Int.toNat (m:Int)) (Fe.mk 0 0 0)).length:Int) then
    ((at_ s12.1 s12.2).bind λv17=>some (.go ((s12.1.set (Int.toNat s12.2) (Fe.mk (-1) (-1) (-1)),w64 (s12.2+1)))))
   else some (.out s12.1)) (List.replicate (Int.toNat (m:Int)) (Fe.mk 0 0 0),0)=some (List.replicate m feF):=by
  have h0:List.replicate (Int.toNat (m:Int)) (Fe.mk 0 0 0)=List.replicate 0 feF++List.replicate (m - 0) (Fe.mk 0 0 0):=by simp
  rw [h0]
  refine QdM (σ:=List Fe×Int) (λj=>(List.replicate j feF++List.replicate (m - j) (Fe.mk 0 0 0),(j:Int))) m (λj hj=>?_) ?_
  ·dsimp only
   have hl:(List.replicate j feF++List.replicate (m - j) (Fe.mk 0 0 0)).length=m:=by simp;omega
   rw [if_pos (by simp;omega),at_nat (by rw [hl];exact hj)]
   simp only [WZ]
   rw [Qd Oo,Wc]
   have hx:(List.replicate j feF++List.replicate (m - j) (Fe.mk 0 0 0)).set j (Fe.mk (-1) (-1) (-1))=List.replicate (j+1) feF++List.replicate (m - (j+1)) (Fe.mk 0 0 0):=by
    rw [U1 _ _ Os,W8,V4]
    obtain ⟨q,hq⟩:∃ q,m - j=q+1:=⟨m - j - 1,Oo⟩
    rw [hq,UF,List.set_cons_zero,show m - (j+1)=q by omega,Ya]
    simp
   rw [hx]
   rfl
  ·dsimp only
   rw [if_neg Os,V4]
   simp
 refine Qce lp ?_
 unfold newS
 rw [Wc]
 simp
theorem new_inv{k:Int}{n:Nat}(hk:Qcg k)(hn:2<=n/\n<=64):Qa7 (newS k n) []:=by
 have hg:∀ i (h:i < (newS k n).fs.length),(newS k n).fs[i]=feF:=λi h=>by simp [newS]
 refine ⟨⟨⟨hk,by simp [newS];exact hn.1,by simp [newS];exact hn.2,by simp [newS,szS]⟩,λi hi=>.inl ?_,λi j hi hj hij _ e=>by rw [hg],λi hi=>?_⟩,⟨λx hx=>?_,λf hf=>?_⟩,λx hx=>(by cases hx),Yv,λi hi ho=>absurd (by rw [hg]) ho⟩
 ·rw [hg]
  exact ⟨rfl,rfl,rfl,λa ha _ _=>by simp [newS]⟩
 ·rw [QbK hi,hg]
  exact JD _ rfl
 ·have:=Yx (show x∈List.replicate _ (0:Int) from hx)
  subst this
  unfold U64
  omega
 ·have:=Yx (show f∈List.replicate _ feF from hf)
  subst this
  unfold I64
  exact ⟨by show _<=(-1:Int)/\(-1:Int)<=_;omega,by show _<=(-1:Int)/\(-1:Int)<=_;omega,by show _<=(-1:Int)/\(-1:Int)<=_;omega⟩
end Go.Proofs.YthpnlnjdmlbnaaaGreatDoor
