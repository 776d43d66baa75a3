/- Parts of the proof. No condition. -/
import Derived.Test.YthpnlnjdmlbnaaaGreatDoorQB0
import Derived.Test.YthpnlnjdmlbnaaaGreatDoorQB1
import Derived.Test.YthpnlnjdmlbnaaaGreatDoorQB2
import Derived.Test.YthpnlnjdmlbnaaaGreatDoorQB3
import Derived.Test.YthpnlnjdmlbnaaaGreatDoorQB4
import Derived.Test.YthpnlnjdmlbnaaaGreatDoorQB5
import Derived.Test.YthpnlnjdmlbnaaaGreatDoorQB6
import Derived.Test.YthpnlnjdmlbnaaaGreatDoorQB7
import Derived.Test.YthpnlnjdmlbnaaaGreatDoorQB8
import Derived.Test.YthpnlnjdmlbnaaaGreatDoorQB9
import Derived.Test.YthpnlnjdmlbnaaaGreatDoorQB10
import Derived.Test.YthpnlnjdmlbnaaaGreatDoorQB11
import Derived.Test.YthpnlnjdmlbnaaaGreatDoorQB12
import Derived.Test.YthpnlnjdmlbnaaaGreatDoorQG1
import Derived.Test.YthpnlnjdmlbnaaaGreatDoorQG2
import Derived.IntWalk
import Derived.Laws.StructEq
import Derived.KernelRfl
import Derived.Laws.CopyRow
import Derived.Laws.AppendOwn
import Derived.Laws.OwnMore
import Derived.Laws.MakeOwn
import Derived.Great.BuildSlice
import Derived.WalkKit
import Derived.WalkSpells
import Derived.WalkLawsBesides
import Derived.Lib.Hide
import Derived.Orders
import Derived.RegionTactic
import Derived.Deep.RegionHeld
import Derived.Test.YthpnlnjdmlbnaaaGreatDoorChecked
import Derived.Laws.Externs
import Derived.Test.YthpnlnjdmlbnaaaGreatDoorRows
import Derived.Laws.RangeAny
import Derived.Deep.QuietTactic
import Derived.BigQuiet
import Derived.ChangeSlices
import Derived.Deep.Slices
import Derived.Below
namespace Go.Proofs.YthpnlnjdmlbnaaaGreatDoor
open Go.RowKit
set_option linter.unusedSimpArgs false
set_option linter.unusedVariables false
theorem same_ints_c(l:List Int)(h:l.length<=4294967296):QeZ l l=some true:=by
 refine Gd.eq ?_
 unfold QeZ
 refine .pos rfl ?_
 refine Gd.bndR (P:=λz=>z = .inl ()) ?_ (λ_ _=>.some rfl) (λr h=>by cases h)
 refine Gd.loop (λx:Int=>∃ k:Nat,x=k/\k<=l.length) _ (λx=>l.length - x.toNat) ⟨0,rfl,W9 _⟩ ?_
 rintro x ⟨k,rfl,hk⟩
 refine .ite (λhlt=>?_) λhlt=>.out rfl
 have hlt:k < l.length:=by omega
 have e1:w64 ((k:Int)+1)=((k+1:Nat):Int):=Qd Oo
 rw [e1]
 exact .atN hlt (.atN hlt (.pos rfl (.go ⟨k+1,rfl,hlt⟩ Oo)))
def newH(c:Cfg)(k:Int)(n:Nat):Hp:=⟨c,newS k n,List.replicate c.rules.length [],0,[],⟨List.replicate 32 false,List.replicate 32 0⟩,0,⟨0,0,0,0,0,0,0,0,0⟩,false⟩
theorem flat_nil{α:Type}(n:Nat):(List.replicate n ([]:List α)).flatten=[]:=by
 rw [List.flatten_eq_nil_iff]
 exact λl hl=>(Uu.1 hl).2
theorem newH_inv{c:Cfg}(hc:QcM c){k:Int}{n:Nat}(hk:Qcg k)(hn:2<=n/\n<=64):QD (newH c k n) (List.replicate c.rules.length []):=by
 have hf:=flat_nil (α:=Itm) c.rules.length
 have hi:=new_inv hk hn
 have hmm:∀ x,x∉(List.replicate c.rules.length ([]:List Itm)).flatten:=λx hx=>by rw [hf] at hx;cases hx
 have hno:∀ q,¬ JE (szS (newS k n)) (List.replicate c.rules.length ([]:List Itm)).flatten q:=λq hq=>by
  rw [hf] at hq
  obtain ⟨x,hx,_⟩:=hq
  cases hx
 refine ⟨hc,?_,by rw [W8];rfl,by rw [hf];exact hi,λx hx=>(hmm x hx).elim,λb hb x hx=>?_,λq hq=>by rw [(Uu.1 hq).2];exact Yv,λx hx=>(hmm x hx).elim,Vk _,⟨by simp [newH],by simp [newH],λi h h' _=>?_,λx hx=>by rw [(Uu.1 hx).2];unfold U64;omega⟩,λi hi=>?_,λq hq=>absurd hq (hno q),⟨λx hx=>(by cases hx),λi h=>absurd h (Vo _)⟩,λx hx=>(by cases hx),λf t q hq=>?_,λq hq=>absurd hq (hno q),λ_=>?_⟩
 ·show List.replicate c.rules.length []=_
  rw [UO];rfl
 ·rw [UZ] at hx;cases hx
 ·have h':i < (List.replicate 32 (0:Int)).length:=h'
  show (List.replicate 32 (0:Int))[i]=0
  rw [UZ]
 ·rw [Zf] at hi
  have hi:(List.replicate 32 false)[i]?=some true:=hi
  rw [VS] at hi
  split at hi <;> cases hi
 ·obtain ⟨y,hy,_⟩:=hq
  cases hy
 ·have:Qj (newS k n).fs=List.range (newS k n).fs.length:=by
   unfold Qj
   rw [VM]
   intro i hi
   rw [WC] at hi
   rw [QaM hi]
   simp [newS,feF]
  show 2 * ((newS k n).fs.length - (Qj (newS k n).fs).length)<=_
  rw [this,WM]
  omega
theorem new27_c{c:Cfg}(hc:QcM c){k n:Int}(hk:Qcg k)(hn:2<=n/\n<=64):JW c k n=some (newH c k n.toNat,0):=by
 have hl:=hc.len
 refine Gd.eq ?_
 unfold JW
 refine .call (check_c hc) (.pos rfl (.call (new_spec hk hn) (.pos rfl (.pos Oo (.pos Oo ?_)))))
 have hr:JX=some ⟨List.replicate 32 false,List.replicate 32 0⟩:=by
  unfold JX
  rw [if_pos Oo,if_pos Oo];rfl
 refine .call hr (.some ?_)
 unfold newH
 rw [Wc]
structure MadeOk(c:Cfg)(r:Hp×Gra×Qc):Prop where
 inv:∃ BL,QD r.1 BL
 cfg:r.1.config=c
 ded:r.1.dead=false
 seq:r.1.seq<=20000
 gra:GOk r.2.1
 nod:r.2.1.nodes.length<=60
 dck:Xu r.2.2
theorem heapOf_g{c:Cfg}(hc:QcM c){d:Qc}(hd:Xu d):Gd (MadeOk c) (Ja d c):=by
 unfold Ja
 refine Gd.bind (P:=λr=>(3<=r.1/\r.1<=4)/\(6<=r.2.1/\r.2.1<=20)/\Xu r.2.2) ?_ λr hr=>?_
 ·unfold Qag
  refine .bind (QZ hd Oo) λr1 h1=>.bind (QZ h1.2 Oo) λr2 h2=>.some ?_
  have k1:=h1.1
  have k2:=h2.1
  refine ⟨?_,?_,h2.2⟩
  ·show 3<=w64 (3+r1.1)/\w64 (3+r1.1)<=4
   rw [Qd Oo];omega
  ·show 6<=w64 (6+r2.1)/\w64 (6+r2.1)<=20
   rw [Qd Oo];omega
 have hk:Qcg r.1:=by unfold Qcg;omega
 refine .call (new27_c hc hk Oo) ?_
 obtain ⟨g0,eg,hg0,gn,_⟩:=new29_c
 refine .call eg ?_
 refine Gd.bind (P:=λb:Qc×Hp×Gra=>MadeOk c (b.2.1,b.2.2,b.1)) ?_ λb hb=>.some hb
 refine .bind (QZ hr.2.2 Oo) λr6 h6=>?_
 have k6:=h6.1
 refine Gd.loop (λ(s:Qc×Hp×Gra×Int)=>Xu s.1/\(∃ BL,QD s.2.1 BL)/\s.2.1.config=c/\s.2.1.dead=false/\GOk s.2.2.1/\(0<=s.2.2.2/\s.2.2.2<=55)/\s.2.1.seq<=257 * (55 - s.2.2.2)/\(s.2.2.1.nodes.length:Int)<=55 - s.2.2.2) _ (λs=>s.2.2.2.toNat) ⟨h6.2,⟨_,newH_inv hc hk Oo⟩,rfl,rfl,hg0,by dsimp only;rw [Qd Oo];omega,by show (0:Int)<=_;dsimp only;rw [Qd Oo];omega,by dsimp only;rw [gn,Qd Oo];show (0:Int)<=_;omega⟩ ?_
 rintro ⟨dk,h,g,n⟩ ⟨i1,⟨BL,H⟩,i2,i3,i4,i5,i6,i7⟩
 dsimp only at i1 H i2 i3 i4 i5 i6 i7
 have fin:MadeOk c (h,g,dk):=⟨⟨BL,H⟩,i2,i3,by show h.seq<=20000;omega,i4,by show g.nodes.length<=60;omega,i1⟩
 refine .ite (λk0=>?_) λk0=>.out fin
 have k0:0 < n:=k0
 refine .call rfl (.ite (λkl=>?_) λkl=>.out fin)
 refine .bind (op_g i1 i4) λo ho=>?_
 refine .call (do28_c H Oo ho.1) ?_
 have hw:w64 (n - 1)=n - 1:=Qd Oo
 refine .ite (λke=>.go ⟨ho.2,⟨BL,H⟩,i2,i3,i4,by dsimp only;rw [hw];omega,by dsimp only;rw [hw];omega,by dsimp only;rw [hw];omega⟩ (by dsimp only;rw [hw];omega)) λke=>?_
 have ke:¬ (doR h o.1).2.err=18:=ke
 have hO:=(do_ok H Oo (o:=o.1)).resolve_left ke
 refine .call (do29_c i4 _) ?_
 obtain ⟨g1,g2⟩:=doG_ok i4 Oo o.1
 have o1:=hO.hi
 refine .go ⟨ho.2,hO.inv,hO.cfg.trans i2,hO.ded.trans i3,g1,by dsimp only;rw [hw];omega,by dsimp only;rw [hw];omega,by dsimp only;rw [hw];omega⟩ (by dsimp only;rw [hw];omega)
def pctB:Option (Nat×Int)->Bool
 | some (v,e)=>decide (e=0) && (Qez .gtr v 0 && (Qez .leq v 4607182418800017408 && !Qez .eql v 0))
 | none=>false
theorem pct_all:((List.range 100).all λn=>pctB (Zc ((n+1:Nat):Int)))=true:=by decide +kernel
structure ShrX(x:Nat):Prop where
 ok:QcD x
 ne:¬ Qez .eql x 0=true
theorem percent_c{p:Int}(hp:1<=p/\p<=100):∃ v,Zc p=some (v,0)/\ShrX v:=by
 obtain ⟨n,rfl⟩:∃ n:Nat,p=((n+1:Nat):Int):=⟨(p - 1).toNat,Oo⟩
 have h:=WL.1 pct_all n (WC.2 Oo)
 generalize Zc ((n+1:Nat):Int)=r at h
 match r,h with
 | some (v,e),h =>
  have h:(decide (e=0) && (Qez .gtr v 0 && (Qez .leq v 4607182418800017408 && !Qez .eql v 0)))=true:=h
  rw [W0,W0,W0] at h
  obtain ⟨h1,h2,h3,h4⟩:=h
  have h1:=of_decide_eq_true h1
  subst h1
  exact ⟨v,rfl,.inr ⟨h2,h3⟩,λq=>by rw [q] at h4;cases h4⟩
 | none,h=>exact absurd h Od
def nmB(i:Nat)(c:Int):Bool:=(decide (97<=c) && decide (c<=122)) || (!decide (i=0) && (decide (c=45) || (decide (48<=c) && decide (c<=57))))
def nmA(s:ByteArray):Bool:=(List.range s.size).all λi=>match sAt s (i:Int) with | some c=>nmB i c | none=>false
theorem named_c{s:ByteArray}(h:(decide (1<=s.size) && decide (s.size<=16) && nmA s)=true):Zj s=some true:=by
 simp only [W0,decide_eq_true_eq] at h
 obtain ⟨⟨h1,h2⟩,h3⟩:=h
 refine Gd.eq ?_
 unfold Zj
 refine Gd.bndR (P:=λz=>z = .inl ()) ?_ (λ_ hP=>.pos Oo (.some (decide_eq_true Oo))) (λr hP=>by cases hP)
 refine Gd.for s.size (λ(_:Unit) i=>i) (λi _=>True) () rfl (λ_ _=>rfl) Oo trivial (λi hi t ht=>?_) (λt ht=>rfl)
 have h4:=WL.1 h3 i (WC.2 hi)
 cases e:sAt s (i:Int) with
 | none=>rw [e] at h4;cases h4
 | some c =>
  rw [e] at h4
  unfold nmB at h4
  simp only [VB,W0,decide_eq_true_eq,Vn,decide_eq_false_iff_not] at h4
  have go:Gd (λa=>(∃ t':Unit,a=LS.go (β:=Unit ⊕ Bool) (w64 ((i:Int)+1))/\True)\/∃ o,a=LS.out o/\o = .inl ()) (some (LS.go (w64 ((i:Int)+1)))):=.some (.inl ⟨(),rfl,trivial⟩)
  refine .bind (P:=λv=>v=c) ⟨c,rfl,rfl⟩ λv hv=>?_
  subst hv
  refine .ite (λk1=>.ite (λk2=>go) λk2=>?_) λk1=>?_
  all_goals
   refine .neg Oo (.ite (λk3=>go) λk3=>.neg Oo (.neg Oo go))
theorem names_ok:∀ s∈[(ByteArray.mk #[115,101,109,105,115,112,97,99,101]),(ByteArray.mk #[97,112,112,101,108]),(ByteArray.mk #[102,105,120,101,100]),(ByteArray.mk #[111,108,100,101,114,45,102,105,114,115,116]),(ByteArray.mk #[120,120]),(ByteArray.mk #[120,120,49,48,48]),(ByteArray.mk #[111,119,110])],(decide (1<=s.size) && decide (s.size<=16) && nmA s)=true:=by decide +kernel
structure RulI(n j:Nat)(r:Rul):Prop where
 shr:QcD r.share
 lim:0<=r.limit/\r.limit<=64
 bat:0<=r.batch/\r.batch<=64
 last:j+1=n->r.limit=0/\r.target=j
 next:j+1 < n->r.target=j+1
def QcF(x:Nat)(full:Int):Prop:=if Qez .eql x 0=true then 1<=full/\full<=64 else full=0
structure OwnI(n b:Nat)(rs:List Rul)(full:Int):Prop where
 len:rs.length=b
 rule:∀ j (h:j < rs.length),RulI n j rs[j]
 fl:b < n->full=0
 fin:b=n->∀ h:n - 1 < rs.length,QcF rs[n - 1].share full
theorem OwnI.push{n b:Nat}{rs:List Rul}{full f':Int}(h:OwnI n b rs full){r:Rul}(hr:RulI n b r)(h1:b+1 < n->f'=0)(h2:b+1=n->QcF r.share f'):OwnI n (b+1) (rs++[r]) f':=by
 have hl:=h.len
 refine ⟨by rw [Wn,WE,hl],λj hj=>?_,h1,λe hj=>?_⟩
 ·rw [Wn,WE] at hj
  by_cases k:j < rs.length
  ·rw [Yw k];exact h.rule j k
  ·have:j=rs.length:=by omega
   subst this
   rw [UE (Wo _)]
   simp only [V4,YH]
   rw [hl];exact hr
 ·have:=h2 e
  have e2:n - 1=rs.length:=by omega
  simp only [e2]
  rw [UE (Wo _)]
  simp only [V4,YH]
  exact this
theorem OwnI.cfg{n:Nat}{rs:List Rul}{full:Int}(h:OwnI n n rs full)(hn:1<=n/\n<=4){s:ByteArray}(hs:Zj s=some true):QcM ⟨s,rs,full⟩:=by
 have hl:=h.len
 refine ⟨hs,by show 1<=rs.length/\rs.length<=4;omega,λb hb=>?_,λb h0 hb=>?_,λhb=>?_⟩
 ·have hb:b < rs.length:=hb
  have hr:=h.rule b hb
  refine ⟨hr.shr,hr.lim,hr.bat,λe=>hr.last (by have:b+1=rs.length:=e;omega),λe=>?_⟩
  have e:b+1 < rs.length:=e
  have:=hr.next Oo
  show (b:Int) < rs[b].target/\rs[b].target < (rs.length:Int)
  omega
 ·have hb:b < rs.length:=hb
  refine ⟨b - 1,by show b - 1 < rs.length;omega,by show b - 1+1 < rs.length;omega,?_⟩
  have:=(h.rule (b - 1) Oo).next Oo
  show rs[b - 1].target=(b:Int)
  omega
 ·have:=h.fin rfl Oo
  have e:rs.length - 1=n - 1:=by omega
  show QcF (rs[rs.length - 1]'_).share full
  simp only [e]
  exact this
theorem f00:Qez .eql 0 0=true:=by decide +kernel
theorem full0{f:Int}(h:1<=f/\f<=64):QcF 0 f:=by unfold QcF;rw [if_pos f00];exact h
theorem fullX{x:Nat}(h:ShrX x):QcF x 0:=by unfold QcF;rw [if_neg h.ne]
theorem own0{n:Nat}(hn:1<=n):OwnI n 0 [] 0:=⟨rfl,λj h=>absurd h (Vo _),λ_=>rfl,λe=>by omega⟩
theorem shr0:QcD 0:=.inl rfl
theorem Jh{n j:Nat}{x:Nat}{l b t:Int}(hx:QcD x)(hl:0<=l/\l<=64)(hb:0<=b/\b<=64)(h1:j+1=n->l=0/\t=j)(h2:j+1 < n->t=j+1):RulI n j ⟨x,l,b,t⟩:=⟨hx,hl,hb,h1,h2⟩
theorem one_cfg{x:Nat}{b f:Int}(hx:QcD x)(hb:0<=b/\b<=64)(hf:QcF x f):OwnI 1 1 [⟨x,0,b,0⟩] f :=
 (own0 (Wo 1)).push (r:=⟨x,0,b,0⟩) (Jh hx Oo hb (λ_=>⟨rfl,rfl⟩) λh=>by omega) (λh=>by omega) λ_=>hf
theorem two_cfg{x y:Nat}{l b b' f:Int}(hx:QcD x)(hy:QcD y)(hl:0<=l/\l<=64)(hb:0<=b/\b<=64)(hb':0<=b'/\b'<=64)(hf:QcF y f):OwnI 2 2 [⟨x,l,b,1⟩,⟨y,0,b',1⟩] f :=
 ((own0 Oo).push (r:=⟨x,l,b,1⟩) (f':=0) (Jh hx hl hb (λh=>by omega) λ_=>rfl) (λ_=>rfl) λh=>by omega).push (r:=⟨y,0,b',1⟩) (Jh hy Oo hb' (λ_=>⟨rfl,rfl⟩) λh=>by omega) (λh=>by omega) λ_=>hf
theorem three_cfg{x y z:Nat}{b b' b'' f:Int}(hx:QcD x)(hy:QcD y)(hz:QcD z)(hb:0<=b/\b<=64)(hb':0<=b'/\b'<=64)(hb'':0<=b''/\b''<=64)(hf:QcF z f):OwnI 3 3 [⟨x,0,b,1⟩,⟨y,0,b',2⟩,⟨z,0,b'',2⟩] f :=
 (((own0 Oo).push (r:=⟨x,0,b,1⟩) (f':=0) (Jh hx Oo hb (λh=>by omega) λ_=>rfl) (λ_=>rfl) λh=>by omega).push (r:=⟨y,0,b',2⟩) (f':=0) (Jh hy Oo hb' (λh=>by omega) λ_=>rfl) (λ_=>rfl) λh=>by omega).push (r:=⟨z,0,b'',2⟩) (Jh hz Oo hb'' (λ_=>⟨rfl,rfl⟩) λh=>by omega) (λh=>by omega) λ_=>hf
def nameL:List ByteArray:=[(ByteArray.mk #[115,101,109,105,115,112,97,99,101]),(ByteArray.mk #[97,112,112,101,108]),(ByteArray.mk #[102,105,120,101,100]),(ByteArray.mk #[111,108,100,101,114,45,102,105,114,115,116]),(ByteArray.mk #[120,120]),(ByteArray.mk #[120,120,49,48,48])]
def nameB(i j:Nat):Bool:=match nameL[i]?,nameL[j]? with | some s,some t=>(s.toList == t.toList) == decide (i=j) | _,_=>false
theorem names_ne:((List.range 6).all λi=>(List.range 6).all λj=>nameB i j)=true:=by decide +kernel
theorem name_e{i j:Nat}{s t:ByteArray}(hi:nameL[i]?=some s)(hj:nameL[j]?=some t)(hi6:i < 6)(hj6:j < 6):(s.toList == t.toList)=decide (i=j):=by
 have h:=WL.1 (WL.1 names_ne i (WC.2 hi6)) j (WC.2 hj6)
 unfold nameB at h
 rw [hi,hj] at h
 simpa using h
theorem get_c{i:Nat}(hi:i < 6){s:ByteArray}(hs:nameL[i]?=some s){p:Int}(hp:1<=p/\p<=100):Gd (λr=>QcM r.1) (JY s p):=by
 obtain ⟨v,hv,hx⟩:=percent_c hp
 have hn:Zj s=some true:=named_c (names_ok s (by
  have:=Wp hs
  unfold nameL at this
  simp only [Wv,Vr,or_false] at this ⊢
  rcases this with h | h | h | h | h | h <;> simp [h]))
 have ne:∀ {j:Nat} {t:ByteArray},nameL[j]?=some t->j < 6->i≠j->¬ (s.toList == t.toList)=true:=λ{j t} hj hj6 hij q=>by
  rw [name_e hs hj hi hj6] at q
  exact hij (of_decide_eq_true q)
 have eq:∀ {t:ByteArray},nameL[i]?=some t->(s.toList == t.toList)=true:=λ{t} hj=>by rw [name_e hs hj hi hi];exact decide_eq_true rfl
 unfold JY
 refine .call hv (.pos rfl ?_)
 have hpp:¬ p < 1:=by omega
 have z:(0:Int)<=0/\(0:Int)<=64:=by omega
 have o:(0:Int)<=1/\(1:Int)<=64:=by omega
 have e8:QcF 0 8:=full0 Oo
 rcases i with _ | _ | _ | _ | _ | _ | i
 ·exact .pos (eq rfl) (.neg hpp (.some ((one_cfg shr0 z (full0 Oo)).cfg Oo hn)))
 ·exact .neg (ne (j:=0) rfl Oo Oo) (.pos (eq rfl) (.neg hpp (.some ((two_cfg shr0 shr0 z z z e8).cfg Oo hn))))
 ·exact .neg (ne (j:=0) rfl Oo Oo) (.neg (ne (j:=1) rfl Oo Oo) (.pos (eq rfl) (.neg hpp (.some ((two_cfg hx.ok shr0 o z z e8).cfg Oo hn)))))
 ·exact .neg (ne (j:=0) rfl Oo Oo) (.neg (ne (j:=1) rfl Oo Oo) (.neg (ne (j:=2) rfl Oo Oo) (.pos (eq rfl) (.neg hpp (.some ((one_cfg hx.ok o (fullX hx)).cfg Oo hn))))))
 ·exact .neg (ne (j:=0) rfl Oo Oo) (.neg (ne (j:=1) rfl Oo Oo) (.neg (ne (j:=2) rfl Oo Oo) (.neg (ne (j:=3) rfl Oo Oo) (.pos (eq rfl) (.neg hpp (.some ((two_cfg hx.ok hx.ok z o o (fullX hx)).cfg Oo hn)))))))
 ·exact .neg (ne (j:=0) rfl Oo Oo) (.neg (ne (j:=1) rfl Oo Oo) (.neg (ne (j:=2) rfl Oo Oo) (.neg (ne (j:=3) rfl Oo Oo) (.neg (ne (j:=4) rfl Oo Oo) (.pos (eq rfl) (.neg hpp (.some ((three_cfg hx.ok hx.ok shr0 o o z e8).cfg Oo hn))))))))
 ·omega
theorem QcM.more{c:Cfg}(h:QcM c)(h0:0 < c.full){f:Int}(hf:1<=f/\f<=64):QcM ⟨c.name,c.rules,f⟩:=by
 refine ⟨h.name,h.len,h.rule,h.aim,λhl=>?_⟩
 have:=h.full hl
 split at this
 ·rename_i e
  show if _ then _ else _
  rw [if_pos e];exact hf
 ·omega
theorem shares_ok:∀ x∈[4602678819172646912,4593671619917905920,4607182418800017408,4599676419421066581,4562254508917369340],(Qez .gtr x 0 && Qez .leq x 4607182418800017408)=true:=by decide +kernel
theorem share_g{d:Qc}(hd:Xu d):Gd (λr=>QcD r.1/\Xu r.2) (JB d):=by
 unfold JB
 refine .bind (QZ hd Oo) λr1 h1=>.ite (λ_=>?_) λ_=>?_
 ·refine .bind (QZ h1.2 Oo) λr2 h2=>?_
  have k2:=h2.1
  have hl:r2.1.toNat < ([4602678819172646912,4593671619917905920,4607182418800017408,4599676419421066581,4562254508917369340]:List Nat).length:=by simp only [WP,VL];omega
  refine .at k2.1 hl (.some ⟨?_,h2.2⟩)
  have:=shares_ok _ (Wd hl)
  rw [W0] at this
  exact .inr this
 ·refine .bind (QZ h1.2 Oo) λr2 h2=>?_
  have k2:=h2.1
  rw [Qd Oo]
  obtain ⟨v,hv,hx⟩:=percent_c (p:=1+r2.1) Oo
  exact .call hv (.some ⟨hx.ok,h2.2⟩)
def OwnS(n:Nat)(s:Qc×List Rul×Int×Int):Prop:=Xu s.1/\∃ b:Nat,s.2.2.2=(b:Int)/\b<=n/\OwnI n b s.2.1 s.2.2.1
def OwnQ(n:Nat)(b:Qc×List Rul×Int):Prop:=Xu b.1/\OwnI n n b.2.1 b.2.2
theorem Qeb{n b:Nat}{d:Qc}{rs:List Rul}{f f':Int}{r:Rul}{m:Nat}(hn:n<=4)(hb:b < n)(h:OwnI n b rs f)(hd:Xu d)(hr:RulI n b r)(h1:b+1 < n->f'=0)(h2:b+1=n->QcF r.share f')(hm:n - b=m) :
  Gd (LSP (OwnS n) (OwnQ n) (λs=>n - s.2.2.2.toNat) m) (if ((rs.length:Int)+([r]:List Rul).length) * 32<=140737488355328/\(rs.length:Int)+([r]:List Rul).length<=9223372036854775807 then some (LS.go (d,rs++[r],f',w64 ((b:Int)+1))) else none):=by
 have hl:=h.len
 have e:w64 ((b:Int)+1)=((b+1:Nat):Int):=by rw [Qd Oo];push_cast;rfl
 rw [e]
 refine .pos (by rw [WE];omega) (.go ⟨hd,b+1,rfl,Oo,h.push hr h1 h2⟩ ?_)
 show n - (((b+1:Nat):Int)).toNat < m
 rw [Wc]
 omega
set_option maxHeartbeats 1000000 in
theorem config_g{d:Qc}(hd:Xu d):Gd (λr=>QcM r.1/\Xu r.2) (Jb d):=by
 unfold Jb
 refine .bind (QZ hd Oo) λr2 h2=>.ite (λ_=>?_) λ_=>?_
 ·refine .call (show JP=some nameL from rfl) (.bind (QZ h2.2 Oo) λr5 h5=>?_)
  have k5:=h5.1
  have hl:r5.1.toNat < nameL.length:=by show r5.1.toNat < 6;omega
  refine .at k5.1 hl (.bind (QZ h5.2 Oo) λr7 h7=>.bind (QZ h7.2 Oo) λr8 h8=>?_)
  have k7:=h7.1
  have k8:=h8.1
  rw [Qd (n:=1+r7.1) Oo]
  have hl2:r8.1.toNat < ([10,15,25,30,50,1+r7.1]:List Int).length:=by simp only [WP,VL];omega
  refine .at k8.1 hl2 ?_
  have hp:1<=([10,15,25,30,50,1+r7.1]:List Int)[r8.1.toNat]/\([10,15,25,30,50,1+r7.1]:List Int)[r8.1.toNat]<=100:=by
   have hm:=Wd hl2
   generalize ([10,15,25,30,50,1+r7.1]:List Int)[r8.1.toNat]=y at hm
   simp only [Wv,Vr,or_false] at hm
   omega
  refine .bind (get_c (i:=r5.1.toNat) Oo (Wa hl) hp) λr10 h10=>.ite (λhf=>?_) λ_=>.some ⟨h10,h8.2⟩
  refine .bind (QZ h8.2 Oo) λr13 h13=>.some ⟨?_,h13.2⟩
  have k13:=h13.1
  rw [Qd Oo]
  exact h10.more hf Oo
 ·refine .bind (QZ h2.2 Oo) λr14 h14=>?_
  have k14:=h14.1
  rw [Qd (n:=1+r14.1) Oo]
  obtain ⟨n,en⟩:∃ n:Nat,1+r14.1=(n:Int):=⟨(1+r14.1).toNat,Oo⟩
  rw [en]
  have hn1:1<=n:=by omega
  have hn4:n<=4:=by omega
  rw [Qd (n:=(n:Int) - 1) Oo]
  refine Gd.bind (P:=OwnQ n) ?_ λb hb=>.some ⟨hb.2.cfg ⟨hn1,hn4⟩ (named_c (names_ok _ Os)),hb.1⟩
  refine Gd.loop (OwnS n) (OwnQ n) (λs=>n - s.2.2.2.toNat) ⟨h14.2,0,rfl,Oo,own0 hn1⟩ ?_
  rintro ⟨d,rs,f,i⟩ ⟨hd,b,eb,hbn,hI⟩
  dsimp only at hd eb hI ⊢
  subst eb
  refine .ite (λhb=>?_) λhb=>.out ⟨hd,?_⟩
  ·have hb:b < n:=by omega
   have hf0:=hI.fl hb
   have hm:n - b=n - ((b:Nat):Int).toNat:=by rw [Wc]
   have ew:w64 ((b:Int)+1)=((b+1:Nat):Int):=by rw [Qd Oo];push_cast;rfl
   refine .bind (QZ hd Oo) λr24 h24=>.bind (QZ h24.2 Oo) λr26 h26=>?_
   have k24:=h24.1
   refine .ite (λ_=>?_) λ_=>?_
   ·refine .bind (share_g h26.2) λr28 h28=>.ite (λhlt=>?_) λhlt=>?_
    ·have hlt:(b:Int) < (n:Int) - 1:=hlt
     refine .bind (QZ h28.2 Oo) λr31 h31=>.ite (λ_=>?_) λ_=>?_
     ·refine .bind (QZ h31.2 Oo) λr33 h33=>.neg Oo ?_
      have k33:=h33.1
      refine Qeb hn4 hb hI h33.2 ?_ (λ_=>hf0) (λh=>by omega) hm
      exact Jh h28.1 (by rw [Qd Oo];omega) Oo (λh=>by omega) λ_=>by rw [ew];push_cast;rfl
     ·refine .neg Oo (Qeb hn4 hb hI h31.2 ?_ (λ_=>hf0) (λh=>by omega) hm)
      exact Jh h28.1 Oo Oo (λh=>by omega) λ_=>by rw [ew];push_cast;rfl
    ·have hlt:¬ (b:Int) < (n:Int) - 1:=hlt
     refine .pos Oo (.ite (λhz=>?_) λhz=>?_)
     ·refine .bind (QZ h28.2 Oo) λr51 h51=>?_
      have k51:=h51.1
      refine Qeb hn4 hb hI h51.2 (Jh h28.1 Oo Oo (λ_=>⟨rfl,rfl⟩) λh=>by omega) (λh=>by omega) (λ_=>?_) hm
      rw [Qd Oo]
      unfold QcF
      rw [if_pos hz];omega
     ·refine Qeb hn4 hb hI h28.2 (Jh h28.1 Oo Oo (λ_=>⟨rfl,rfl⟩) λh=>by omega) (λh=>by omega) (λ_=>?_) hm
      unfold QcF
      rw [if_neg hz];exact hf0
   ·refine .ite (λhlt=>?_) λhlt=>?_
    ·have hlt:(b:Int) < (n:Int) - 1:=hlt
     refine .bind (QZ h26.2 Oo) λr31 h31=>.ite (λ_=>?_) λ_=>?_
     ·refine .bind (QZ h31.2 Oo) λr33 h33=>.neg Oo ?_
      have k33:=h33.1
      refine Qeb hn4 hb hI h33.2 ?_ (λ_=>hf0) (λh=>by omega) hm
      exact Jh shr0 (by rw [Qd Oo];omega) Oo (λh=>by omega) λ_=>by rw [ew];push_cast;rfl
     ·refine .neg Oo (Qeb hn4 hb hI h31.2 ?_ (λ_=>hf0) (λh=>by omega) hm)
      exact Jh shr0 Oo Oo (λh=>by omega) λ_=>by rw [ew];push_cast;rfl
    ·have hlt:¬ (b:Int) < (n:Int) - 1:=hlt
     refine .pos Oo ?_
     refine .bind (QZ h26.2 Oo) λr51 h51=>?_
     have k51:=h51.1
     refine Qeb hn4 hb hI h51.2 (Jh shr0 Oo Oo (λ_=>⟨rfl,rfl⟩) λh=>by omega) (λh=>by omega) (λ_=>full0 ?_) hm
     rw [Qd Oo];omega
  ·have hb:¬ (b:Int) < n:=hb
   have:b=n:=by omega
   subst this
   exact hI
theorem heap_g{d:Qc}(hd:Xu d):Gd (λr=>∃ c,MadeOk c r) (J2 d):=by
 unfold J2
 refine .bind (config_g hd) λr1 h1=>.bind (heapOf_g h1.1 h1.2) λr2 h2=>.some ⟨_,h2⟩
theorem low_bit:∀ (m:Nat),0 < m->∃ j q,m=2 ^ (j+1) * q+2 ^ j
 | m,h=>by
  by_cases e:m % 2=1
  ·exact ⟨0,m / 2,by simp;omega⟩
  ·obtain ⟨j,q,e2⟩:=low_bit (m / 2) Oo
   refine ⟨j+1,q,?_⟩
   have:m=2 * (m / 2):=by omega
   rw [this,e2,Nat.mul_add,<- Nat.mul_assoc,<- Nat.pow_succ',<- Nat.pow_succ']
theorem bit_at(j q i:Nat):(2 ^ (j+1) * q+2 ^ j).testBit i=if i<=j then decide (i=j) else q.testBit (i - (j+1)):=by
 rw [Ye _ (UD Oo Oo)]
 by_cases h:i < j+1
 ·rw [if_pos h,if_pos Oo,UG]
  by_cases e:i=j
  ·rw [decide_eq_true e,decide_eq_true e.symm]
  ·rw [decide_eq_false e,decide_eq_false (λk=>e k.symm)]
 ·rw [if_neg h,if_neg Oo]
theorem bit_pred(j q i:Nat):(2 ^ (j+1) * q+2 ^ j - 1).testBit i=if i<=j then decide (i < j) else q.testBit (i - (j+1)):=by
 have h1:=Yc j
 rw [Nat.add_sub_assoc h1,Ye _ (by rw [Nat.pow_succ];omega)]
 by_cases h:i < j+1
 ·rw [if_pos h,if_pos Oo,Nat.testBit_two_pow_sub_one]
 ·rw [if_neg h,if_neg Oo]
theorem and_pred(j q i:Nat):((2 ^ (j+1) * q+2 ^ j) &&& (2 ^ (j+1) * q+2 ^ j - 1)).testBit i=((2 ^ (j+1) * q+2 ^ j).testBit i && !decide (i=j)):=by
 rw [Nat.testBit_and,bit_at,bit_pred]
 by_cases h:i<=j
 ·rw [if_pos h,if_pos h]
  by_cases e:i=j
  ·simp [e]
  ·simp [e]
 ·rw [if_neg h,if_neg h]
  have:¬ i=j:=by omega
  simp [this]
theorem and_neg{j q:Nat}(h:2 ^ (j+1) * q+2 ^ j < 2 ^ 64):(2 ^ (j+1) * q+2 ^ j) &&& (2 ^ 64 - (2 ^ (j+1) * q+2 ^ j))=2 ^ j:=by
 have h1:=Yc j
 apply Nat.eq_of_testBit_eq
 intro i
 have e:2 ^ 64 - (2 ^ (j+1) * q+2 ^ j)=2 ^ 64 - ((2 ^ (j+1) * q+2 ^ j - 1)+1):=by omega
 rw [Nat.testBit_and,e,Nat.testBit_two_pow_sub_succ Oo,bit_pred,bit_at,UG]
 have hj:j < 64:=by
  refine (Yz (a:=2) Oo).1 ?_
  omega
 by_cases h:i<=j
 ·rw [if_pos h,if_pos h]
  by_cases e:i=j
  ·subst e;simp [hj]
  ·have:¬ j=i:=λk=>e k.symm
   simp [e,this]
 ·rw [if_neg h,if_neg h]
  have:¬ j=i:=by omega
  by_cases hq:q.testBit (i - (j+1))=true <;> simp [hq,this]
theorem tab_all:((List.range 64).all λj=>tabL[(2 ^ j * 285870213051353865 % 18446744073709551616) / 288230376151711744]? == some (j:Int))=true:=by decide +kernel
theorem low_lt{j q:Nat}(h:2 ^ (j+1) * q+2 ^ j < 18446744073709551616):j < 64:=by
 refine (Yz (a:=2) Oo).1 ?_
 omega
theorem wu_nat{n:Nat}(h:n<=18446744073709551615):wu (n:Int)=n:=Jd Oo
theorem wu_mod(n:Nat):wu (n:Int)=((n % 18446744073709551616:Nat):Int):=by
 unfold wu
 rw [IntKind.wrap_u64]
 omega
theorem tz_c{j q:Nat}(h:2 ^ (j+1) * q+2 ^ j < 18446744073709551616):QL ((2 ^ (j+1) * q+2 ^ j:Nat):Int)=some (j:Int):=by
 have h1:=Yc j
 have hj:=low_lt h
 refine Gd.eq ?_
 unfold QL
 refine .neg Oo ?_
 have e1:wu (0 - ((2 ^ (j+1) * q+2 ^ j:Nat):Int))=((2 ^ 64 - (2 ^ (j+1) * q+2 ^ j):Nat):Int):=by
  unfold wu
  rw [IntKind.wrap_u64]
  omega
 rw [e1,(QdW h Oo).1,and_neg h]
 have e2:((2 ^ j:Nat):Int) * 285870213051353865=((2 ^ j * 285870213051353865:Nat):Int):=(YI (2 ^ j) 285870213051353865).symm
 rw [e2,wu_mod]
 have e3:Qb2 .u64 ((2 ^ j * 285870213051353865 % 18446744073709551616:Nat):Int) 58=((2 ^ j * 285870213051353865 % 18446744073709551616 / 288230376151711744:Nat):Int):=by
  have:=shru (a:=((2 ^ j * 285870213051353865 % 18446744073709551616:Nat):Int)) (j:=58) Oo Oo
  rw [show ((58:Nat):Int)=58 from rfl] at this
  rw [this]
  generalize 2 ^ j * 285870213051353865 % 18446744073709551616=x
  rw [show (2:Int) ^ 58=((288230376151711744:Nat):Int) from by decide]
  exact (Ub x 288230376151711744).symm
 rw [e3]
 have ht:=WL.1 tab_all j (WC.2 hj)
 simp only [beq_iff_eq] at ht
 generalize 2 ^ j * 285870213051353865 % 18446744073709551616 / 288230376151711744=x at ht
 obtain ⟨hl,e⟩:=Wi.1 ht
 refine .atN hl (.some ?_)
 rw [e]
 exact Qd Oo
theorem filter_low{p:Nat->Bool}{j:Nat}(h1:p j=true)(h2:∀ i,i < j->p i=false):∀ n,(List.range n).filter p=if j < n then j :: (List.range n).filter (λi=>p i && !decide (i=j)) else []
 | 0=>by rw [if_neg Oo];rfl
 | n+1=>by
  rw [VX,Vj,Vj,filter_low h1 h2 n]
  by_cases a:j < n
  ·have:¬ n=j:=by omega
   rw [if_pos a,if_pos Oo,List.cons_append]
   simp [W4,this]
  ·by_cases b:n=j
   ·subst b
    rw [if_neg a,if_pos Oo,UJ]
    have:(List.range n).filter (λi=>p i && !decide (i=n))=[]:=by
     rw [Ut]
     intro i hi
     rw [WC] at hi
     simp [h2 i hi]
    rw [this]
    simp [W4,h1]
   ·rw [if_neg a,if_neg Oo,UJ]
    simp [W4,h2 n Oo]
theorem Qey{p:Nat->Bool}{a:Nat}(h:∀ i,a<=i->p i=false):∀ d,(List.range (a+d)).filter p=(List.range a).filter p
 | 0=>rfl
 | d+1=>by
  rw [<- Ua,VX,Vj,Qey h d]
  simp [W4,h (a+d) Oo]
structure MskP(fs:List Fe)(l:List Inc)(m:Nat):Prop where
 lt:m < 18446744073709551616
 bit:∀ j,m.testBit j=isC fs l j
theorem set_c{s:Sp}(h64:s.fs.length<=64){l:List Inc}(hl:l.length<=9223372036854775806):∃ m:Nat,XE s l=some (m:Int)/\MskP s.fs l m:=by
 suffices h:Gd (λr:Int=>∃ m:Nat,r=(m:Int)/\MskP s.fs l m) (XE s l) by
  obtain ⟨r,h1,m,rfl,h2⟩:=h
  exact ⟨m,h1,h2⟩
 unfold XE
 refine Gd.bind (P:=λr:Int=>∃ m:Nat,r=(m:Int)/\MskP s.fs l m) ?_ λb hb=>.some hb
 refine Gd.for s.fs.length (λ(t:Int) i=>(t,i)) (λi t=>∃ m:Nat,t=(m:Int)/\m < 18446744073709551616/\∀ j,m.testBit j=(decide (j < i) && isC s.fs l j)) 0 rfl (λ_ _=>rfl) Oo ⟨0,rfl,Oo,λj=>by simp⟩ (λi hi t ht=>?_) (λt ht=>?_)
 ·obtain ⟨m0,rfl,hm,hb⟩:=ht
  refine Gd.bind (P:=λr:Int=>∃ m:Nat,r=(m:Int)/\m < 18446744073709551616/\∀ j,m.testBit j=(decide (j < i+1) && isC s.fs l j)) ?_ λb hb=>.some (.inl ⟨b,rfl,hb⟩)
  refine .atN hi ?_
  refine Gd.for l.length (λ(t:Int) i=>(t,i)) (λk t=>∃ m:Nat,t=(m:Int)/\m < 18446744073709551616/\∀ j,m.testBit j=((decide (j < i) && isC s.fs l j) || (decide (j=i) && decide (s.fs[i].ow∈(l.take k).map Inc.seq)))) (m0:Int) rfl (λ_ _=>rfl) Oo ⟨m0,rfl,hm,λj=>by rw [hb j];simp⟩ (λk hk t ht=>?_) (λt ht=>?_)
  ·obtain ⟨m,rfl,hm,hb⟩:=ht
   have etk:(l.take (k+1)).map Inc.seq=(l.take k).map Inc.seq++[l[k].seq]:=by rw [Vt hk,WF];rfl
   refine .atN hk (.ite (λe=>?_) λe=>?_)
   ·have e:s.fs[i].ow=l[k].seq:=e
    refine .pos Oo (.pos (wu_u _).1 ?_)
    have hp:(2:Nat) ^ i < 18446744073709551616:=by
     have:(2:Nat) ^ i < 2 ^ 64:=UD Oo Oo
     exact this
    rw [wu_nat (n:=i) Oo,shlu1 Oo,show (2:Int) ^ i=((2 ^ i:Nat):Int) from (Int.natCast_pow 2 i).symm,(QdW hm hp).2]
    refine .some (.inl ⟨((m ||| 2 ^ i:Nat):Int),rfl,m ||| 2 ^ i,rfl,?_,λj=>?_⟩)
    ·have:m ||| 2 ^ i < 2 ^ 64:=Yp hm hp
     exact this
    ·rw [Nat.testBit_or,hb j,UG,etk]
     by_cases ej:j=i
     ·subst ej;simp [e]
     ·have:¬ i=j:=λq=>ej q.symm
      simp [ej,this]
   ·have e:¬ s.fs[i].ow=l[k].seq:=e
    refine .some (.inl ⟨(m:Int),rfl,m,rfl,hm,λj=>?_⟩)
    rw [hb j,etk]
    simp [e]
  ·obtain ⟨m,rfl,hm,hb⟩:=ht
   refine ⟨m,rfl,hm,λj=>?_⟩
   rw [hb j,WH]
   by_cases ej:j=i
   ·subst ej
    rw [Qcw hi]
    simp
   ·by_cases e2:j < i
    ·simp [e2,ej,show j < i+1 by omega]
    ·simp [e2,ej,show ¬ j < i+1 by omega]
 ·obtain ⟨m,rfl,hm,hb⟩:=ht
  refine ⟨m,rfl,hm,λj=>?_⟩
  rw [hb j]
  by_cases e:j < s.fs.length
  ·simp [e]
  ·have:isC s.fs l j=false:=by
    cases h:isC s.fs l j with
    | false=>rfl
    | true=>exact absurd (Qbl.1 h).1 e
   simp [e,this]
theorem sframes_c{s:Sp}(h64:s.fs.length<=64){l:List Inc}(hl:l.length<=9223372036854775806):Xh s l=some ((cfr s.fs l).map λ(k:Nat)=>(k:Int)):=by
 obtain ⟨m,hm,hM⟩:=set_c h64 hl
 have hcf:cfr s.fs l=(List.range 64).filter m.testBit:=by
  unfold cfr
  have h1:=Qey (p:=isC s.fs l) (a:=s.fs.length) (λi hi=>by
   cases h:isC s.fs l i with
   | false=>rfl
   | true=>have:=(Qbl.1 h).1;omega) (64 - s.fs.length)
  rw [show s.fs.length+(64 - s.fs.length)=64 by omega] at h1
  rw [<- h1]
  congr 1
  funext j
  exact (hM.bit j).symm
 refine Gd.eq ?_
 unfold Xh
 refine Gd.bind (P:=λb=>b=(cfr s.fs l).map λ(k:Nat)=>(k:Int)) ?_ λb hb=>.some hb
 refine .call hm ?_
 refine Gd.loop (λ(x:List Int×Int)=>∃ (t:List Nat) (w:Nat),x=(t.map λ(k:Nat)=>(k:Int),(w:Int))/\w < 18446744073709551616/\t.length<=64/\t++(List.range 64).filter w.testBit=(List.range 64).filter m.testBit) _ (λx=>x.2.toNat) ⟨[],m,rfl,hM.lt,Os,rfl⟩ ?_
 rintro x ⟨t,w,rfl,hw,htl,ht⟩
 dsimp only
 refine .ite (λh0=>.out ?_) λh0=>?_
 ·have:w=0:=by omega
  subst this
  rw [hcf,<- ht]
  have:(List.range 64).filter (Nat.testBit 0)=[]:=by rw [Ut];intro i _;simp
  rw [this,VQ]
 ·have h0:¬ (w:Int)=0:=h0
  obtain ⟨j,q,e⟩:=low_bit w Oo
  subst e
  have hj:=low_lt hw
  refine .call (tz_c hw) ?_
  have hlow:=filter_low (p:=(2 ^ (j+1) * q+2 ^ j).testBit) (j:=j) (by rw [bit_at];simp) (λi hi=>by rw [bit_at,if_pos Oo];simp;omega) 64
  rw [if_pos hj] at hlow
  have hpos:=Yc j
  have ew:bits .and .u64 ((2 ^ (j+1) * q+2 ^ j:Nat):Int) (wu (((2 ^ (j+1) * q+2 ^ j:Nat):Int) - 1))=(((2 ^ (j+1) * q+2 ^ j) &&& (2 ^ (j+1) * q+2 ^ j - 1):Nat):Int):=by
   rw [show ((2 ^ (j+1) * q+2 ^ j:Nat):Int) - 1=((2 ^ (j+1) * q+2 ^ j - 1:Nat):Int) by omega,wu_nat Oo,(QdW hw Oo).1]
  have hfl:(List.range 64).filter ((2 ^ (j+1) * q+2 ^ j) &&& (2 ^ (j+1) * q+2 ^ j - 1)).testBit=(List.range 64).filter (λi=>(2 ^ (j+1) * q+2 ^ j).testBit i && !decide (i=j)):=by
   congr 1
   funext i
   exact and_pred j q i
  have hlen:(t++(List.range 64).filter (2 ^ (j+1) * q+2 ^ j).testBit).length<=64:=by
   rw [ht]
   have:=WN m.testBit (List.range 64)
   rw [WM] at this
   exact this
  rw [hlow,Wn,WP] at hlen
  rw [ew]
  refine .pos (by rw [Wb,WE];omega) (.go ⟨t++[j],(2 ^ (j+1) * q+2 ^ j) &&& (2 ^ (j+1) * q+2 ^ j - 1),by rw [WF];rfl,?_,by rw [Wn,WE];omega,?_⟩ ?_)
  ·exact Yj Nat.and_le_left hw
  ·rw [hfl,<- ht,hlow,WX];rfl
  ·rw [Wc,Wc]
   have:=Nat.and_le_right (n:=2 ^ (j+1) * q+2 ^ j) (m:=2 ^ (j+1) * q+2 ^ j - 1)
   omega
theorem within_c{s:Sp}(hs:Qbs s){l:List Inc}{m:Nat}(hM:MskP s.fs l m){w:Int}(hw:U64 w):Xg s (m:Int) w=some (bP (QaY s l w)):=by
 have hwl:=hs.small
 have h64:=hs.hi
 have hws:=hs.wl
 have hz:=(XC hs.sh).2.2.1
 unfold U64 at hw
 refine Gd.eq ?_
 unfold Xg
 rw [wu_nat Oo]
 refine .ite (λh0=>.f λh=>h.1.1 h0) λh0=>.ite (λh1=>?_) λh1=>.f λh=>h1 h.1.2
 have h0:¬ w=0:=h0
 have h1:w<=(s.ws.length:Int):=h1
 refine .pos (wu_u _).1 ?_
 have e:=shr_k hs.sh (a:=w64 (wu (w - 1))) (w - 1).toNat (by rw [Jd Oo,Qd Oo];omega)
 rw [e]
 refine .pos (Int.natCast_nonneg _) (.some ?_)
 have hfr:(w - 1).toNat / szS s < s.fs.length:=(VH Oo).2 Oo
 generalize hk:(w - 1).toNat / szS s=k at hfr
 have e2:Qb2 .u64 (m:Int) (k:Int)=((m / 2 ^ k:Nat):Int):=by
  rw [shru (by have:=hM.lt;omega) Oo,show (2:Int) ^ k=((2 ^ k:Nat):Int) from (Int.natCast_pow 2 k).symm]
  exact (Ub m (2 ^ k)).symm
 have hlt:m / 2 ^ k < 18446744073709551616:=Yj (Nat.div_le_self _ _) hM.lt
 have e3:=(QdW (a:=m / 2 ^ k) (b:=1) hlt Oo).1
 rw [e2,show (1:Int)=((1:Nat):Int) from rfl,e3,Nat.and_one_is_mod]
 have hb:=hM.bit k
 rw [Nat.testBit_eq_decide_div_mod_eq] at hb
 have hW:QaY s l w<->isC s.fs l k=true:=⟨λh=>by have:=h.2;rw [show Jf s (w - 1)=k from hk] at this;exact this,λh=>⟨⟨h0,h1⟩,by rw [show Jf s (w - 1)=k from hk];exact h⟩⟩
 by_cases h:QaY s l w
 ·rw [Qc3 h]
  have h2:=hW.1 h
  rw [h2] at hb
  have h3:=of_decide_eq_true hb
  rw [h3]
  rfl
 ·rw [bP_f h]
  have h2:isC s.fs l k=false:=by
   cases q:isC s.fs l k with
   | false=>rfl
   | true=>exact absurd (hW.2 q) h
  rw [h2] at hb
  have h3:=of_decide_eq_false hb
  exact decide_eq_false Oo
theorem awake22:Jc=some true:=by
 have hp:Qbs ⟨3,List.replicate 16 0,[Fe.mk 4 4 (-1),Fe.mk (-1) (-1) (-1)]⟩:=⟨by unfold Qcg;decide,Od,Od,Od⟩
 obtain ⟨m,hm,hM⟩:=set_c (s:=⟨3,List.replicate 16 0,[Fe.mk 4 4 (-1),Fe.mk (-1) (-1) (-1)]⟩) Od (l:=[Inc.mk 4 0 0 0 0]) Od
 have hW:∀ w,U64 w->ZD ⟨3,List.replicate 16 0,[Fe.mk 4 4 (-1),Fe.mk (-1) (-1) (-1)]⟩ [Inc.mk 4 0 0 0 0] w=some (bP (QaY ⟨3,List.replicate 16 0,[Fe.mk 4 4 (-1),Fe.mk (-1) (-1) (-1)]⟩ [Inc.mk 4 0 0 0 0] w)):=λw hw=>by
  unfold ZD
  rw [hm]
  simp only [WZ]
  rw [within_c hp hM hw]
  rfl
 refine Gd.eq ?_
 unfold Jc
 refine .pos Oo ?_
 rw [show Int.toNat 16=16 from rfl]
 refine .call (sframes_c Od Od) ?_
 rw [show cfr [Fe.mk 4 4 (-1),Fe.mk (-1) (-1) (-1)] [Inc.mk 4 0 0 0 0]=[0] by decide]
 refine .pos Od (.at0 Od (.pos rfl ?_))
 refine .call (hW 3 (by unfold U64;omega)) (.pos (Qc3 ?_) ?_)
 ·unfold QaY;decide
 refine .call (hW 0 (by unfold U64;omega)) (.neg (by rw [ZI];exact λh=>h.1.1 rfl) ?_)
 refine .call (hW 9 (by unfold U64;omega)) (.some ?_)
 rw [bP_f]
 ·rfl
 ·unfold QaY;decide
theorem compact_ok{d:Array Int}(hs:∀ i j,i<=j->j < d.size->d[i]!<=d[j]!):∀ m,m<=d.size->(Lib.compactUpTo d m).Pairwise (· < ·)/\∀ x,x∈Lib.compactUpTo d m<->∃ j,j < m/\d[j]! = x
 | 0,_=>⟨by simp [Lib.compactUpTo],λx=>by simp [Lib.compactUpTo]⟩
 | m+1,hm=>by
  obtain ⟨h1,h2⟩:=compact_ok hs m Oo
  rw [Lib.compactUpTo_succ]
  by_cases hk:Lib.keeps d m=true
  ·rw [if_pos hk]
   refine ⟨WV.2 ⟨h1,Os,λa ha b hb=>?_⟩,λx=>?_⟩
   ·simp only [Wl] at hb
    subst hb
    obtain ⟨j,hj,rfl⟩:=(h2 a).1 ha
    have h3:=hs j (m - 1) Oo Oo
    have h4:=hs (m - 1) m Oo Oo
    have h5:d[m]!≠d[m - 1]!:=by
     simp only [Lib.keeps,decide_eq_true_eq] at hk
     rcases hk with h | h
     ·omega
     ·exact h
    omega
   ·rw [Wk,h2,Wl]
    constructor
    ·rintro (⟨j,hj,e⟩ | e)
     ·exact ⟨j,Oo,e⟩
     ·exact ⟨m,Oo,e.symm⟩
    ·rintro ⟨j,hj,e⟩
     rcases VE.1 hj with h | h
     ·exact .inl ⟨j,h,e⟩
     ·subst h;exact .inr e.symm
  ·rw [if_neg hk,VQ]
   have hk':Lib.keeps d m=false:=by simpa using hk
   simp only [Lib.keeps,decide_eq_false_iff_not,not_or,ne_eq,Decidable.not_not] at hk'
   refine ⟨h1,λx=>(h2 x).trans ⟨λ⟨j,hj,e⟩=>⟨j,Oo,e⟩,λ⟨j,hj,e⟩=>?_⟩⟩
   rcases VE.1 hj with h | h
   ·exact ⟨j,h,e⟩
   ·subst h;exact ⟨j - 1,Oo,hk'.2.symm.trans e⟩
theorem srt_le(l:List Int):(Qfb l).Pairwise (·<=·):=by
 have:=List.pairwise_mergeSort (le:=λx y:Int=>decide (x<=y)) (λa b c h1 h2=>by simp at h1 h2 ⊢;omega) (λa b=>by simp;omega) l
 exact this.imp λh=>by simpa using h
theorem srt_mem{l:List Int}{x:Int}:x∈Qfb l<->x∈l:=List.mem_mergeSort
theorem srt_len(l:List Int):(Qfb l).length=l.length:=List.length_mergeSort l
noncomputable def setL(l:List Int):List Int:=Lib.compact (Qfb l)
theorem setL_ok(l:List Int):(setL l).Pairwise (· < ·)/\∀ x,x∈setL l<->x∈l:=by
 obtain ⟨h1,h2⟩:=compact_ok (d:=(Qfb l).toArray) (λi j hij hj=>by
  simp only [VJ] at hj
  rw [getElem!_pos _ i (by simp;omega),getElem!_pos _ j (by simpa using hj)]
  simp only [List.getElem_toArray]
  rcases UP hij with h | h
  ·exact Wx.1 (srt_le l) i j Oo hj h
  ·subst h;exact Vk _) (Qfb l).length Os
 refine ⟨h1,λx=>(h2 x).trans ⟨λ⟨j,hj,e⟩=>?_,λh=>?_⟩⟩
 ·rw [getElem!_pos _ j (by simpa using hj)] at e
  simp only [List.getElem_toArray] at e
  exact srt_mem.1 (e▸Wd hj)
 ·obtain ⟨j,hj,e⟩:=WQ.1 (srt_mem.2 h)
  exact ⟨j,hj,by rw [getElem!_pos _ j (by simpa using hj)];simpa using e⟩
theorem setL_len(l:List Int):(setL l).length<=l.length:=by
 have:=Lib.compact_length_le (Qfb l)
 rw [srt_len] at this
 exact this
theorem contains_c(l:List Int)(v:Int)(hl:l.length<=9223372036854775806):Qdh l v=some (decide (v∈l)):=by
 refine Gd.eq ?_
 unfold Qdh
 refine Gd.bind (P:=λi=>0<=i<->v∈l) ?_ λi hi=>.some (decide_eq_decide.2 hi)
 unfold Qe0
 refine Gd.bndR (P:=λz=>(z = .inl ()/\v∉l)\/∃ i:Int,z = .inr i/\0<=i/\v∈l) ?_ (λ_ hP=>?_) (λr hP=>?_)
 ·refine Gd.find l (λx=>v=x) hl (λi hi hn=>?_) (λhn=>.inl ⟨rfl,λhm=>hn v hm rfl⟩)
  refine .atN hi (.ite (λe=>.some (.inr ⟨e,_,rfl,.inr ⟨_,rfl,Oo,e▸Wd hi⟩⟩)) λe=>.some (.inl ⟨e,rfl⟩))
 ·rcases hP with ⟨_,hn⟩ | ⟨_,h,_⟩
  ·exact .some ⟨λh=>absurd h Od,λh=>absurd h hn⟩
  ·cases h
 ·rcases hP with ⟨h,_⟩ | ⟨i,h,h0,hm⟩
  ·cases h
  ·injection h with h
   subst h
   exact ⟨λ_=>hm,λ_=>h0⟩
def catS(l:List Qe)(fr:List Int):List Int:=(QcX l fr).flatMap Qe.slots
theorem intoN_fold(S:List Qe):∀ n:Int,S.foldl (λ(n:Int) (x:Qe)=>n+(x.slots.length:Int)) n=n+((S.flatMap Qe.slots).length:Int):=by
 induction S with
 | nil=>intro n;simp
 | cons x S ih =>
  intro n
  rw [VP,ih,Yu,Wn]
  push_cast
  omega
theorem intoN_len(l:List Qe)(fr:List Int):intoN l fr=((catS l fr).length:Int):=by
 unfold intoN catS
 rw [intoN_fold]
 omega
theorem flat_len{l:List Qe}{B:Nat}(h:∀ x∈l,x.slots.length<=B):(l.flatMap Qe.slots).length<=l.length * B:=by
 induction l with
 | nil=>simp
 | cons x l ih =>
  rw [Yu,Wn,WP,VA]
  have h1:=h x (Wz ..)
  have h2:=ih λy hy=>h y (Wm _ hy)
  omega
theorem catS_len{l:List Qe}(hl:Qy l)(hi:Z3 l)(fr:List Int):(catS l fr).length<=67108864:=by
 have h1:(catS l fr).length<=(QcX l fr).length * 16384:=flat_len λx hx=>hl.slots hi x (intoS_mem.1 hx).1
 have h2:(QcX l fr).length<=l.length:=WN _ _
 have h3:=hl.len
 have h4:(QcX l fr).length * 16384<=4096 * 16384:=WG _ Oo
 omega
theorem mem_catS{l:List Qe}{fr:List Int}{y:Int}:y∈catS l fr<->y∈intoL l fr:=by
 unfold catS
 rw [Qef,U6]
 constructor
 ·rintro ⟨x,hx,hy⟩
  obtain ⟨h1,h2,h3⟩:=intoS_mem.1 hx
  exact ⟨x,h1,h2,h3,hy⟩
 ·rintro ⟨x,h1,h2,h3,hy⟩
  exact ⟨x,intoS_mem.2 ⟨h1,h2,h3⟩,hy⟩
theorem cpt_into{l:List Qe}{fr:List Int}:cptL (Qfb (catS l fr))=intoL l fr:=by
 obtain ⟨h1,h2⟩:=setL_ok (catS l fr)
 exact Asc.ext (Asc.pw.2 h1) (Qep l fr) λx=>(h2 x).trans mem_catS
theorem take_flat{l:List Qe}{p:Qe->Bool}{i:Nat}(h:i < l.length):((l.take (i+1)).filter p).flatMap Qe.slots=((l.take i).filter p).flatMap Qe.slots++if p l[i]=true then l[i].slots else []:=by
 rw [QF h,Vj,List.flatMap_append]
 congr 1
 by_cases e:p l[i]=true
 ·rw [if_pos e,List.filter_cons_of_pos e];simp
 ·rw [if_neg e,List.filter_cons_of_neg e];rfl
theorem into_c{l:List Qe}(hl:Qy l)(hi:Z3 l)(fr:List Int)(hf:fr.length<=65536):Qe5 l fr=some (intoL l fr,intoN l fr):=by
 refine Gd.eq ?_
 unfold Qe5
 have hlen:=hl.len
 have hcat:=catS_len hl hi fr
 refine Gd.bind (P:=λt=>t=catS l fr) ?_ λt ht=>?_
 ·refine Gd.for l.length (λ(t:List Int) i=>(t,i)) (λi t=>t=((l.take i).filter λx=>decide (x.to∈fr) && !decide (x.frm∈fr)).flatMap Qe.slots) [] rfl (λ_ _=>rfl) Oo Os (λi h t ht=>?_) (λt ht=>by rw [WH] at ht;exact ht)
  have hstep:=take_flat (p:=λx=>decide (x.to∈fr) && !decide (x.frm∈fr)) h
  have hsl:=hl.slots hi l[i] (Wd h)
  have ht':t.length<=67108864:=by
   rw [ht]
   have h1:=flat_len (l:=(l.take i).filter λx=>decide (x.to∈fr) && !decide (x.frm∈fr)) (B:=16384) λx hx=>hl.slots hi x (Vy (WI.1 hx).1)
   have h2:=WN (λ(x:Qe)=>decide (x.to∈fr) && !decide (x.frm∈fr)) (l.take i)
   rw [Ws] at h2
   have h4:((l.take i).filter λx=>decide (x.to∈fr) && !decide (x.frm∈fr)).length * 16384<=4096 * 16384:=WG _ Oo
   omega
  refine .atN h (.call (contains_c fr l[i].to Oo) (.ite (λe=>.call (contains_c fr l[i].frm Oo) (.ite (λe2=>?_) λe2=>?_)) λe=>?_))
  ·refine .some (.inl ⟨t,rfl,?_⟩)
   rw [hstep,if_neg (by rw [e2];simp),VQ];exact ht
  ·refine .pos ⟨by push_cast;omega,by push_cast;omega⟩ (.some (.inl ⟨t++l[i].slots,rfl,?_⟩))
   rw [hstep,if_pos (by rw [e];simp at e2;simp [e2]),ht]
  ·refine .some (.inl ⟨t,rfl,?_⟩)
   have e:decide (l[i].to∈fr)=false:=by simpa using e
   rw [hstep,if_neg (by rw [e];simp),VQ];exact ht
 ·subst ht
  have e1:Qe4 (catS l fr)=some (Qfb (catS l fr)):=by unfold Qe4;rw [if_pos Oo]
  have e2:Qe1 (Qfb (catS l fr))=some (cptL (Qfb (catS l fr))):=by unfold Qe1;rw [if_pos (by rw [srt_len];omega)]
  refine .call e1 (.pos (by rw [srt_len]) (.call e2 (.some ?_)))
  rw [cpt_into,intoN_len]
theorem sentries_c{s:Sp}(hs:XA s)(hW:SpW s){l:List Qe}(hl:Qy l)(hi:Z3 l)(c:List Inc)(hc:c.length<=9223372036854775806):Qe2 s l c=some (Qbb s l c,intoN l ((cfr s.fs c).map λ(k:Nat)=>(k:Int))):=by
 refine Gd.eq ?_
 unfold Qe2
 have h64:=hs.shp.hi
 obtain ⟨m,hm,hM⟩:=set_c (s:=s) Oo hc
 have hcl:=cfr_len s.fs c
 refine .call hm (.call (sframes_c Oo hc) (.call (into_c hl hi _ (by rw [Wb];omega)) ?_))
 dsimp only
 have hasc:=Qep l ((cfr s.fs c).map λ(k:Nat)=>(k:Int))
 have hrng:=intoL_rng hi (fr:=(cfr s.fs c).map λ(k:Nat)=>(k:Int))
 have hil:=asc_le hasc hrng
 have hwl:=XT hs
 refine Gd.bind (P:=λt=>t=Qbb s l c) ?_ λt ht=>.some (by rw [ht])
 unfold Qbb
 generalize intoL l ((cfr s.fs c).map λ(k:Nat)=>(k:Int))=L at hasc hrng hil
 refine Gd.fold L (λ(t:List Int) i=>(t,i)) (λt x=>if bP (x < (s.ws.length:Int)/\QaY s c (wAt s x))=true then t++[x] else t) [] (λi t=>t.length<=i) rfl (λ_ _=>rfl) Oo Os (λi hi t ht=>?_) (λ_=>?_)
 ·refine ⟨?_,?_⟩
  ·split
   ·rw [Wn,WE];omega
   ·omega
  ·have hxr:=hrng _ (Wd hi)
   refine .atN hi ?_
   refine .ite (λhlt=>?_) λhlt=>.some (by rw [if_neg];rw [ZI];exact λk=>hlt k.1)
   refine .at hxr.1 Oo ?_
   rw [<- wAt_at hxr.1 Oo]
   refine .call (within_c hs.shp hM (wAt_u hW _)) ?_
   refine .ite (λh=>.pos (XD (l:=t) Oo Oo) (.some (by rw [if_pos];rw [ZI];exact ⟨hlt,ZI.1 h⟩))) λh=>.some (by rw [if_neg];rw [ZI];exact λk=>h (ZI.2 k.2))
 ·exact Qbp _ _ _
def Bmp(arr t:List Int)(F:List Nat):Prop:=t.length=arr.length/\∀ f v,arr[f]?=some v->t[f]?=some (if f∈F then v+1 else v)
theorem Bmp.nil(arr:List Int):Bmp arr arr []:=⟨rfl,λf v h=>by simpa using h⟩
theorem Bmp.push{arr t:List Int}{F:List Nat}(h:Bmp arr t F){f:Nat}{v:Int}(hf:f∉F)(hv:arr[f]?=some v):t[f]?=some v/\Bmp arr (t.set f (v+1)) (F++[f]):=by
 have h1:=h.2 f v hv
 rw [if_neg hf] at h1
 obtain ⟨hl,_⟩:=Wi.1 h1
 refine ⟨h1,by rw [Ww];exact h.1,λg w hg=>?_⟩
 by_cases e:g=f
 ·subst e
  rw [hv] at hg
  injection hg with hg
  subst hg
  rw [WB hl,if_pos (Wh _ (Wl.2 rfl))]
 ·rw [WA (λk=>e k.symm),h.2 g w hg]
  simp [e]
def Mrk(G:Itm->List Nat)(L:List Itm)(n:Nat)(arr:List Int):Prop:=arr.length=n/\∀ f,f < n->((∃ x∈L,f∈G x)->arr[f]?=some 1)/\((¬ ∃ x∈L,f∈G x)->arr[f]?=some 0)
theorem Mrk.step{G:Itm->List Nat}{L:List Itm}{n:Nat}{arr arr':List Int}(h:Mrk G L n arr){x:Itm}(hd:∀ f∈G x,∀ y∈L,f∉G y)(hb:Bmp arr arr' (G x)):Mrk G (L++[x]) n arr':=by
 refine ⟨hb.1.trans h.1,λf hf=>⟨λ⟨y,hy,hfy⟩=>?_,λhn=>?_⟩⟩
 ·by_cases hx:f∈G x
  ·have:=hb.2 f 0 ((h.2 f hf).2 λ⟨z,hz,hfz⟩=>hd f hx z hz hfz)
   rw [if_pos hx] at this
   exact this
  ·rcases Wk.1 hy with hy | hy
   ·have:=hb.2 f 1 ((h.2 f hf).1 ⟨y,hy,hfy⟩)
    rw [if_neg hx] at this
    exact this
   ·rw [Wl.1 hy] at hfy
    exact absurd hfy hx
 ·have hx:f∉G x:=λq=>hn ⟨x,Wh _ (Wl.2 rfl),q⟩
  have:=hb.2 f 0 ((h.2 f hf).2 λ⟨z,hz,hfz⟩=>hn ⟨z,We _ hz,hfz⟩)
  rw [if_neg hx] at this
  exact this
theorem Mrk.val{G:Itm->List Nat}{L:List Itm}{n:Nat}{arr:List Int}(h:Mrk G L n arr){f:Nat}(hf:f < n):∃ v,arr[f]?=some v/\0<=v/\v<=1:=by
 by_cases k:∃ x∈L,f∈G x
 ·exact ⟨1,(h.2 f hf).1 k,Oo,Oo⟩
 ·exact ⟨0,(h.2 f hf).2 k,Oo,Oo⟩
theorem Mrk.zero(G:Itm->List Nat)(n:Nat):Mrk G [] n (List.replicate n 0):=⟨W8,λf hf=>⟨λ⟨x,hx,_⟩=>(by cases hx),λ_=>by rw [VS,if_pos hf]⟩⟩
section
variable{h:Hp}{BL:List (List Itm)}
theorem QcW(H:QD h BL){x:Itm}(hx:x∈BL.flatten){k:Nat}:k∈cfr h.space.fs [x.i]<->k∈x.fr:=by
 have hX:=(H.sp.each x hx).inc.toIncC
 rw [QcV,Qbl]
 constructor
 ·rintro ⟨hk,e⟩
  exact (hX.ow k hk).1 (by simpa using e)
 ·intro hk
  exact ⟨hX.ch.lt k hk,by simp [(hX.ow k (hX.ch.lt k hk)).2 hk]⟩
theorem hd1(H:QD h BL){x:Itm}(hx:x∈BL.flatten){i:Nat}:i∈Jj h.space h.roots [x.i]<->i∈Q7 h.roots/\Jf h.space (Qr h.roots i - 1)∈x.fr:=by
 unfold Jj
 rw [WI,ZI]
 refine ⟨λ⟨h1,h2⟩=>⟨h1,(QcW H hx).1 (QcV.2 h2.2)⟩,λ⟨h1,h2⟩=>⟨h1,?_,QcV.1 ((QcW H hx).2 h2)⟩⟩
 obtain ⟨y,p,r,d,X⟩:=root_x H h1
 have:=X.lt
 have e:=X.e
 omega
theorem new_deck{l:List Int}(h:∀ x∈l,I64 x)(hl:l.length<=9223372036854775807):∃ d,QbP l=some d/\Xu d:=⟨⟨l,0⟩,rfl,h,by show (0:Int)<=0;omega,hl⟩
end
theorem pwithin_c{s:Sp}(hs:XA s){l:List Inc}(hl:l.length<=9223372036854775806){w:Int}(hw:U64 w):ZD s l w=some (bP (QaY s l w)):=by
 have h64:=hs.shp.hi
 obtain ⟨m,hm,hM⟩:=set_c (s:=s) Oo hl
 unfold ZD
 rw [hm,WZ,within_c hs.shp hM hw]
 rfl
section
variable{h:Hp}{BL:List (List Itm)}
theorem mem_cfrM(H:QD h BL){C:List Itm}(hC:∀ x∈C,x∈BL.flatten){k:Nat}:((k:Nat):Int)∈(cfr h.space.fs (C.map Itm.i)).map (λ(k:Nat)=>(k:Int))<->∃ c∈C,k∈c.fr:=by
 rw [mem_nat,QcV]
 exact Qen λx hx=>(H.sp.each x (hC x hx)).inc.toIncC
def SlotX(s:Sp)(x:Itm)(q:Int):Prop:=∃ p r d,(p,r,d)∈obs 0 x.os/\∃ k,1<=k/\k<=r/\q=((adr (szS s) x.fr (p+k):Nat):Int)
theorem slotX_frm(H:QD h BL){x:Itm}(hx:x∈BL.flatten){q:Int}(hq:SlotX h.space x q):0<=q/\q < h.space.ws.length/\Jf h.space q∈x.fr:=by
 obtain ⟨p,r,d,hp,k,k1,k2,rfl⟩:=hq
 have:=ZC H.sp.ok (H.sp.each x hx) hp (k:=k) Oo (q:=((adr (szS h.space) x.fr (p+k):Nat):Int)) Oo Oo
 exact ⟨Oo,this.2,this.1⟩
theorem ent_prefix(H:QD h BL)(m:Nat)(q:Int):q∈Qbb h.space h.sets ((BL.flatten.take m).map Itm.i)<->(∃ x∈BL.flatten.drop m,SlotX h.space x q)/\QaY h.space ((BL.flatten.take m).map Itm.i) (wAt h.space q):=by
 have hC:∀ x∈BL.flatten.take m,x∈BL.flatten:=λx hx=>Vy hx
 have hsplit:∀ x∈BL.flatten,x∉BL.flatten.take m->x∈BL.flatten.drop m:=λx hx hn=>by
  rw [<- Vi m BL.flatten] at hx
  rcases Wk.1 hx with k | k
  ·exact absurd k hn
  ·exact k
 have hord:=H.order
 rw [<- Vi m BL.flatten] at hord
 have hfirst:=(WV.1 hord).2.2
 constructor
 ·intro hq
  unfold Qbb at hq
  rw [WI,ZI] at hq
  obtain ⟨hm,hlt,hw⟩:=hq
  obtain ⟨y,hy,h1,h2,h3⟩:=Qef.1 hm
  have h0:=(H.sin y hy q h3).1
  obtain ⟨⟨x,hx,p,r,d,hp,k,k1,k2,e⟩,hf,_⟩:=H.snd y.frm y.to q ⟨y,hy,rfl,rfl,h3⟩
  refine ⟨⟨x,hsplit x hx λhc=>h2 ?_,p,r,d,hp,k,k1,k2,Oo⟩,hw⟩
  have:=(ZC H.sp.ok (H.sp.each x hx) hp Oo h0 e).1
  rw [hf]
  exact (mem_cfrM H hC).2 ⟨x,hc,this⟩
 ·rintro ⟨⟨x,hxd,hs⟩,hw⟩
  have hx:x∈BL.flatten:=List.mem_of_mem_drop hxd
  obtain ⟨hq0,f2,f1⟩:=slotX_frm H hx hs
  obtain ⟨p,r,d,hp,k,k1,k2,e⟩:=hs
  have hslot:JE (szS h.space) BL.flatten q.toNat:=⟨x,hx,p,r,d,hp,k,k1,k2,Oo⟩
  have hu:U64 (wAt h.space q):=wAt_u H.sp.w q
  unfold U64 at hu
  obtain ⟨c,hc,hcf⟩:=(Qen λx hx=>(H.sp.each x (hC x hx)).inc.toIncC).1 hw.2
  have hci:=(H.sp.each c (hC c hc)).inc.toIncC
  have hxi:=(H.sp.each x hx).inc.toIncC
  have b1:=hci.ch.lt _ hcf
  have b2:=hxi.ch.lt _ f1
  have hord:=hfirst c hc x hxd
  have hneed:Qa8 h.space q (wAt h.space q):=by
   refine ⟨⟨hw.1.1,hw.1.2,hq0,f2⟩,b2,b1,?_,?_,?_⟩
   ·rw [(hxi.ow _ b2).2 f1];have:=hxi.sq;omega
   ·rw [(hci.ow _ b1).2 hcf];have:=hci.sq;omega
   ·rw [hxi.st _ b2 f1,hci.st _ b1 hcf]
    unfold stmp at hord
    exact hord
  have eq:((q.toNat:Nat):Int)=q:=by omega
  have hcmp:=H.cmp _ hslot (by rw [eq];exact hneed)
  rw [eq] at hcmp
  obtain ⟨y,hy,e1,e2,e3⟩:=hcmp
  unfold Qbb
  rw [WI,ZI]
  refine ⟨Qef.2 ⟨y,hy,?_,?_,e3⟩,f2,hw⟩
  ·rw [e2];exact (mem_cfrM H hC).2 ⟨c,hc,hcf⟩
  ·rw [e1]
   intro hm
   obtain ⟨c',hc',hf'⟩:=(mem_cfrM H hC).1 hm
   have h1:=hfirst c' hc' x hxd
   refine hxi.disj (H.sp.each c' (hC c' hc')).inc.toIncC (λe=>?_) _ f1 hf'
   have:=H.uniq hx (hC c' hc') e
   subst this
   omega
theorem fld_mem(H:QD h BL){x:Itm}(hx:x∈BL.flatten){q:Int}:(∃ a∈adrs h.space x,q∈(FldR h.space a).1)<->SlotX h.space x q:=by
 have hX:=H.sp.each x hx
 have key:∀ p r d,(p,r,d)∈obs 0 x.os->(FldR h.space ((adr (szS h.space) x.fr p:Nat):Int)).1=(List.range r).map λj=>((adr (szS h.space) x.fr (p+(j+1)):Nat):Int):=λp r d hp=>by
  have b:=Itm.posOk H.sp.ok hX hp
  have hlk:=(Qej H.sp.ok hX.inc.ch hX.inc.own (p:=p) (r:=r) (d:=d) b.1 b.2.1 b.2.2.1 b.2.2.2).1
  unfold FldR
  rw [hlk,if_pos rfl]
  dsimp only
  unfold fldL
  rw [Wc]
  refine WU λj hj=>?_
  rw [WC] at hj
  have:=go_adr H.sp.ok.shp hX.inc.ch hX.inc.own (p:=p) (k:=j+1) Oo
  rw [show (1+(j:Int))=((j+1:Nat):Int) by omega,this,if_pos Oo]
 constructor
 ·rintro ⟨a,ha,hq⟩
  unfold adrs at ha
  obtain ⟨⟨p,r,d⟩,ho,rfl⟩:=Wj.1 ha
  rw [key p r d ho] at hq
  obtain ⟨j,hj,rfl⟩:=Wj.1 hq
  rw [WC] at hj
  exact ⟨p,r,d,ho,j+1,Oo,Oo,rfl⟩
 ·rintro ⟨p,r,d,hp,k,k1,k2,rfl⟩
  refine ⟨((adr (szS h.space) x.fr p:Nat):Int),WT (f:=λ(o:Nat×Nat×Nat)=>((adr (szS h.space) x.fr o.1:Nat):Int)) hp,?_⟩
  rw [key p r d hp]
  exact Wj.2 ⟨k - 1,by rw [WC];omega,by rw [show p+(k - 1+1)=p+k by omega]⟩
def Mk(s:Sp)(l:List Inc)(D:Int->Prop)(t:List Bool):Prop:=t.length=s.ws.length/\∀ q:Nat,q < s.ws.length->t[q]?=some (bP (D (q:Int)/\QaY s l (wAt s (q:Int))))
theorem Mk.set{s:Sp}{l:List Inc}{D D':Int->Prop}{t:List Bool}(hm:Mk s l D t){q:Int}(h0:0<=q)(hq:q < s.ws.length)(hD:∀ z,D' z<->D z\/z=q):Mk s l D' (t.set q.toNat (bP (QaY s l (wAt s q)))):=by
 refine ⟨by rw [Ww];exact hm.1,λz hz=>?_⟩
 by_cases e:z=q.toNat
 ·subst e
  rw [WB (by rw [hm.1];exact hz),show ((q.toNat:Nat):Int)=q by omega]
  congr 1
  exact bP_congr ⟨λk=>⟨(hD q).2 (.inr rfl),k⟩,λk=>k.2⟩
 ·rw [WA (λk=>e k.symm),hm.2 z hz]
  congr 1
  refine bP_congr (and_congr_left λ_=>?_)
  rw [hD]
  exact ⟨.inl,λk=>k.elim id λk=>absurd Oo e⟩
end
section
theorem Mk.iff{s:Sp}{l:List Inc}{D D':Int->Prop}{t:List Bool}(hm:Mk s l D t)(hD:∀ z,D z<->D' z):Mk s l D' t:=⟨hm.1,λq hq=>by rw [hm.2 q hq];congr 1;exact bP_congr (and_congr_left λ_=>hD _)⟩
theorem adrs_len'{h:Hp}{BL:List (List Itm)}(H:QD h BL){x:Itm}(hx:x∈BL.flatten):(adrs h.space x).length<=16384:=by
 have hX:=H.sp.each x hx
 unfold adrs
 rw [Wb,obs_len']
 have h1:=hX.lay.len'
 have h2:=hX.inc.wd
 have h3:=XT H.sp.ok
 omega
theorem adrs_rng{h:Hp}{BL:List (List Itm)}(H:QD h BL){x:Itm}(hx:x∈BL.flatten):∀ a∈adrs h.space x,I64 a:=λa ha=>by
 unfold adrs at ha
 obtain ⟨⟨p,r,d⟩,ho,rfl⟩:=Wj.1 ha
 have hX:=H.sp.each x hx
 have b:=Itm.posOk H.sp.ok hX ho
 have:=Jt H.sp.ok.shp hX.inc.ch.lt (p:=p) Oo
 have h3:=XT H.sp.ok
 dsimp only
 unfold I64
 omega
theorem ent_cnt{s:Sp}(hs:XA s){l:List Qe}(hl:Qy l)(hi:Z3 l)(c:List Inc):((Qbb s l c).length:Int)<=intoN l ((cfr s.fs c).map λ(k:Nat)=>(k:Int)):=by
 have h1:(Qbb s l c).length<=(intoL l ((cfr s.fs c).map λ(k:Nat)=>(k:Int))).length:=WN _ _
 have h2:=setL_len (catS l ((cfr s.fs c).map λ(k:Nat)=>(k:Int)))
 rw [show setL (catS l ((cfr s.fs c).map λ(k:Nat)=>(k:Int)))=intoL l ((cfr s.fs c).map λ(k:Nat)=>(k:Int)) from cpt_into] at h2
 rw [intoN_len]
 omega
set_option maxHeartbeats 2000000 in
theorem Qfd{l:List Int}{k:Int}(hl:∀ x∈l,I64 x)(hn:l.length<=9223372036854775807)(hk:I64 k):QeX l k=some true:=by
 obtain ⟨d,e0,hd⟩:=new_deck hl hn
 refine Gd.eq ?_
 unfold QeX
 refine .call e0 (.bind (heap_g hd) λr hr=>?_)
 obtain ⟨c,hM⟩:=hr
 obtain ⟨BL,H⟩:=hM.inv
 generalize r.1=h at H
 have hcnt:=H.count
 have hfl:h.belts.flatten=BL.flatten.map Itm.i:=H.flat
 have hwl:=XT H.sp.ok
 refine .call (all15_c H.bsz) ?_
 rw [hfl]
 have hlen:(BL.flatten.map Itm.i).length=BL.flatten.length:=Wb ..
 rw [hlen]
 have e1:w64 ((BL.flatten.length:Int)+1)=(BL.flatten.length:Int)+1:=Qd Oo
 rw [e1]
 refine .call (mod_c hk (n:=(BL.flatten.length:Int)+1) Oo) ?_
 have hm1:=V8 k (show (BL.flatten.length:Int)+1≠0 by omega)
 have hm2:=Ui k (show 0 < (BL.flatten.length:Int)+1 by omega)
 generalize k % ((BL.flatten.length:Int)+1)=mi at hm1 hm2
 obtain ⟨m,rfl⟩:∃ m:Nat,mi=(m:Int):=⟨mi.toNat,Oo⟩
 refine .pos Oo ?_
 have etk:((BL.flatten.map Itm.i).take (Int.toNat (BL.flatten.length:Int))).drop (Int.toNat (m:Int))=(BL.flatten.drop m).map Itm.i:=by
  rw [Wc,Wc,Vb Oo,YS]
 have epr:((BL.flatten.map Itm.i).take (Int.toNat (m:Int))).drop (Int.toNat 0)=(BL.flatten.take m).map Itm.i:=by
  rw [Wc,U8];rfl
 rw [etk,epr,Wc]
 have hcond:(0:Int)<=0/\0<=(m:Int)/\(m:Int)<=(BL.flatten.length:Int):=⟨Oo,Oo,Oo⟩
 have hpl:((BL.flatten.take m).map Itm.i).length<=64:=by rw [Wb,Ws];omega
 generalize hC:(BL.flatten.take m).map Itm.i=C at hpl
 have hdl:(BL.flatten.drop m).length<=64:=by rw [WY];omega
 refine Gd.bind (P:=λt=>Mk h.space C (λz=>∃ x∈BL.flatten.drop m,∃ a∈adrs h.space x,z∈(FldR h.space a).1) t) ?_ λt ht=>?_
 ·refine .pos Oo ?_
  have hml:((BL.flatten.drop m).map Itm.i).length=(BL.flatten.drop m).length:=Wb ..
  refine Gd.for ((BL.flatten.drop m).map Itm.i).length (λ(t:List Bool) i=>(t,i)) (λi t=>Mk h.space C (λz=>∃ x∈(BL.flatten.drop m).take i,∃ a∈adrs h.space x,z∈(FldR h.space a).1) t) (List.replicate h.space.ws.length false) rfl (λ_ _=>rfl) Oo ⟨W8,λq hq=>?_⟩ (λi hi t ht=>?_) (λt ht=>by rw [hml,WH] at ht;exact ht)
  ·rw [VS,if_pos hq]
   congr 1
   exact (bP_f λk=>by obtain ⟨⟨x,hx,_⟩,_⟩:=k;simp at hx).symm
  have hi':i < (BL.flatten.drop m).length:=by omega
  have hx:(BL.flatten.drop m)[i]∈BL.flatten:=List.mem_of_mem_drop (Wd hi')
  obtain ⟨D,hD⟩:∃ D:Int->Prop,D=λz=>∃ x∈(BL.flatten.drop m).take i,∃ a∈adrs h.space x,z∈(FldR h.space a).1:=⟨_,rfl⟩
  rw [<- hD] at ht
  refine Gd.bind (P:=λt'=>Mk h.space C (λz=>D z\/∃ a∈adrs h.space (BL.flatten.drop m)[i],z∈(FldR h.space a).1) t') ?_ λt' ht'=>.some (.inl ⟨t',rfl,?_⟩)
  ·refine .atN hi ?_
   rw [W5]
   refine .call (all_spec H.sp.ok H.sp.w (H.sp.each _ hx)) ?_
   dsimp only
   have hal:=adrs_len' H hx
   have har:=adrs_rng H hx
   generalize adrs h.space (BL.flatten.drop m)[i]=A at hal har
   refine Gd.for A.length (λ(t:List Bool) j=>(t,j)) (λj t=>Mk h.space C (λz=>D z\/∃ a∈A.take j,z∈(FldR h.space a).1) t) t rfl (λ_ _=>rfl) Oo (ht.iff λz=>by simp) (λj hj t1 ht1=>?_) (λt1 ht1=>by rw [WH] at ht1;exact ht1)
   obtain ⟨E,hE⟩:∃ E:Int->Prop,E=λz=>D z\/∃ a∈A.take j,z∈(FldR h.space a).1:=⟨_,rfl⟩
   rw [<- hE] at ht1
   refine Gd.bind (P:=λt2=>Mk h.space C (λz=>E z\/z∈(FldR h.space A[j]).1) t2) ?_ λt2 ht2=>.some (.inl ⟨t2,rfl,?_⟩)
   ·refine .atN hj (.call (fields_c H.sp.ok.shp (Z1 H.sp.ok.fm) H.sp.w (har _ (Wd hj))) ?_)
    obtain ⟨f1,f2⟩:=flds_rng H.sp.ok H.sp.w (a:=A[j])
    generalize (FldR h.space A[j]).1=F at f1 f2
    refine Gd.for F.length (λ(t:List Bool) j=>(t,j)) (λn t=>Mk h.space C (λz=>E z\/z∈F.take n) t) t1 rfl (λ_ _=>rfl) Oo (ht1.iff λz=>by simp) (λn hn t2 ht2=>?_) (λt2 ht2=>by rw [WH] at ht2;exact ht2)
    obtain ⟨q0,q1⟩:=f2 _ (Wd hn)
    have hw:wAt h.space F[n]=h.space.ws[(F[n]).toNat]' Oo:=wAt_at q0 Oo
    refine .atN hn (.pos hcond (.at q0 Oo ?_))
    rw [<- hw]
    refine .call (pwithin_c H.sp.ok Oo (wAt_u H.sp.w _)) (.at q0 (by rw [ht2.1];omega) (.some (.inl ⟨_,rfl,ht2.set q0 q1 λz=>?_⟩)))
    rw [QF hn,Wk,Wl,or_assoc]
   ·refine ht2.iff λz=>?_
    rw [hE,QF hj]
    constructor
    ·rintro ((k | ⟨a,ha,k⟩) | k)
     ·exact .inl k
     ·exact .inr ⟨a,We _ ha,k⟩
     ·exact .inr ⟨_,Wh _ (Wl.2 rfl),k⟩
    ·rintro (k | ⟨a,ha,k⟩)
     ·exact .inl (.inl k)
     ·rcases Wk.1 ha with ha | ha
      ·exact .inl (.inr ⟨a,ha,k⟩)
      ·rw [Wl.1 ha] at k;exact .inr k
  ·refine ht'.iff λz=>?_
   rw [hD,QF hi']
   constructor
   ·rintro (⟨x,hx,k⟩ | k)
    ·exact ⟨x,We _ hx,k⟩
    ·exact ⟨_,Wh _ (Wl.2 rfl),k⟩
   ·rintro ⟨x,hx,k⟩
    rcases Wk.1 hx with hx | hx
    ·exact .inl ⟨x,hx,k⟩
    ·rw [Wl.1 hx] at k;exact .inr k
 ·have htl:t.length=h.space.ws.length:=ht.1
  refine Gd.bind (P:=λw=>w=((List.range t.length).filter λq=>t[q]? == some true).map λ(q:Nat)=>(q:Int)) ?_ λw hw=>?_
  ·refine Gd.for t.length (λ(w:List Int) i=>(w,i)) (λi w=>w=((List.range i).filter λq=>t[q]? == some true).map λ(q:Nat)=>(q:Int)) [] rfl (λ_ _=>rfl) Oo Os (λi hi w hw=>?_) (λw hw=>hw)
   have hwl':w.length<=i:=by
    rw [hw,Wb]
    have:=WN (λq=>t[q]? == some true) (List.range i)
    rwa [WM] at this
   have hst:((List.range (i+1)).filter λq=>t[q]? == some true).map (λ(q:Nat)=>(q:Int))=w++if t[i]=true then [(i:Int)] else []:=by
    rw [VX,Vj,WF,<- hw]
    congr 1
    by_cases e:t[i]=true
    ·rw [if_pos e,List.filter_cons_of_pos (by rw [Wa hi,e];rfl)];rfl
    ·rw [if_neg e,List.filter_cons_of_neg (by rw [Wa hi];simp [e])];rfl
   refine .atN hi (.ite (λe=>.pos (XD (l:=w) Oo Oo) (.some (.inl ⟨w++[(i:Int)],rfl,?_⟩))) λe=>.some (.inl ⟨w,rfl,?_⟩))
   ·rw [hst,if_pos e]
   ·rw [hst,if_neg e,VQ]
  ·have hent:Qbb h.space h.sets C=w:=by
    refine asc_ext (R:=λ(a b:Int)=>a < b) (λa=>by omega) (λ{a b c} h1 h2=>by omega) (entL_asc _ _ _) ?_ λz=>?_
    ·rw [hw,Vh]
     refine (List.Pairwise.filter _ List.pairwise_lt_range).imp λk=>by omega
    ·rw [hw,<- hC,ent_prefix H m z]
     have hmem:z∈((List.range t.length).filter λq=>t[q]? == some true).map (λ(q:Nat)=>(q:Int))<->∃ q:Nat,q < h.space.ws.length/\z=(q:Int)/\((∃ x∈BL.flatten.drop m,∃ a∈adrs h.space x,z∈(FldR h.space a).1)/\QaY h.space C (wAt h.space z)):=by
      rw [Wj]
      constructor
      ·rintro ⟨q,hq,rfl⟩
       obtain ⟨q1,q2⟩:=WI.1 hq
       rw [WC,htl] at q1
       rw [ht.2 q q1] at q2
       exact ⟨q,q1,rfl,ZI.1 (by simpa using q2)⟩
      ·rintro ⟨q,q1,rfl,q2⟩
       refine ⟨q,WI.2 ⟨by rw [WC,htl];exact q1,?_⟩,rfl⟩
       rw [ht.2 q q1,Qc3 q2]
       rfl
     rw [hmem,<- hC]
     constructor
     ·rintro ⟨⟨x,hx,hs⟩,hw⟩
      have hx':x∈BL.flatten:=List.mem_of_mem_drop hx
      obtain ⟨z0,z1,_⟩:=slotX_frm H hx' hs
      exact ⟨z.toNat,Oo,Oo,⟨x,hx,(fld_mem H hx').2 hs⟩,hw⟩
     ·rintro ⟨q,q1,q2,⟨x,hx,k⟩,hw⟩
      exact ⟨⟨x,hx,(fld_mem H (List.mem_of_mem_drop hx)).1 k⟩,hw⟩
   refine .pos hcond (.call (sentries_c H.sp.ok H.sp.w H.sok H.sin C Oo) ?_)
   dsimp only
   rw [hent]
   have hwl2:w.length<=16384:=by rw [<- hent];exact ent_len H
   refine .call (same_ints_c w Oo) (.pos rfl (.pos ?_ (.call awake22 (.some rfl))))
   rw [<- hent]
   exact ent_cnt H.sp.ok H.sok H.sin C
end
open Go.RowKit Go.ChangeShapes Go.WideShapes Go.Deep
theorem i64_of{a:Int}(h:(Lit.int .i64 a).wf=true):I64 a:=by
 simp [Lit.wf,IntKind.min,IntKind.max,IntKind.bits,IntKind.signed] at h
 unfold I64
 omega
theorem op_int:OpD Tryz.prog 3 iC I64:=OpD.i64 Tryz.underlying3
theorem op_ints:OpD Tryz.prog 22 (lC iC) λxs=>(∀ x∈xs,I64 x)/\xs.length<=9223372036854775807:=OpD.slice (sz:=1) Tryz.underlying22 Ok Od (λ_=>rfl) op_int
theorem scanComplete_dc(l:List Int)(k:Int)(hl:(∀ x∈l,I64 x)/\l.length<=9223372036854775807)(hk:I64 k):DCall Tryz.prog 4 [.sl (l.map iC),DI k] [] (DB true) []:=Qe7 ⟨Qfd hl.1 hl.2 hk⟩
end Go.Proofs.YthpnlnjdmlbnaaaGreatDoor
