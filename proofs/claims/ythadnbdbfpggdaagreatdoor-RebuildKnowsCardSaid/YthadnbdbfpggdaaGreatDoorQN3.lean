/- Parts of the proof. No condition. -/
import Derived.Test.YthadnbdbfpggdaaGreatDoorQO0
import Derived.Test.YthadnbdbfpggdaaGreatDoorQO1
import Derived.Test.YthadnbdbfpggdaaGreatDoorQO2
import Derived.Test.YthadnbdbfpggdaaGreatDoorQO3
import Derived.Test.YthadnbdbfpggdaaGreatDoorQO4
import Derived.Test.YthadnbdbfpggdaaGreatDoorQO5
import Derived.Test.YthadnbdbfpggdaaGreatDoorQO6
import Derived.Test.YthadnbdbfpggdaaGreatDoorQO7
import Derived.Test.YthadnbdbfpggdaaGreatDoorQO8
import Derived.Test.YthadnbdbfpggdaaGreatDoorQO9
import Derived.Test.YthadnbdbfpggdaaGreatDoorQO10
import Derived.Test.YthadnbdbfpggdaaGreatDoorQO11
import Derived.Test.YthadnbdbfpggdaaGreatDoorQO12
import Derived.Test.YthadnbdbfpggdaaGreatDoorQO13
import Derived.Test.YthadnbdbfpggdaaGreatDoorQO14
import Derived.Test.YthadnbdbfpggdaaGreatDoorQN1
import Derived.Test.YthadnbdbfpggdaaGreatDoorQN2
import Derived.IntWalk
import Derived.Laws.StructEq
import Derived.KernelRfl
import Derived.Laws.CopyRow
import Derived.Laws.AppendOwn
import Derived.Laws.OwnMore
import Derived.Laws.MakeOwn
import Derived.Great.BuildSlice
import Derived.WalkKit
import Derived.WalkSpells
import Derived.WalkLawsBesides
import Derived.Lib.Hide
import Derived.Orders
import Derived.RegionTactic
import Derived.Deep.RegionHeld
import Derived.Test.YthadnbdbfpggdaaGreatDoorRows
import Derived.Maps.AppendAt
import Derived.Deep.QuietTactic
import Derived.BigQuiet
import Derived.Shelf.Spec.SlicesInsertGrow
import Derived.Test.YthadnbdbfpggdaaGreatDoorChecked
import Derived.ChangeSlices
import Derived.Deep.Slices
import Derived.Below
noncomputable section
namespace Go.Proofs.YthadnbdbfpggdaaGreatDoor
open Go.RowKit
set_option linter.unusedSimpArgs false
set_option linter.unusedVariables false
theorem number_c(x:Int):QgO x=some (bP (0<=x/\x<64)):=in_c x
set_option maxHeartbeats 1000000 in
theorem rsets_c(l:List Qe)(Q:l.length<=4294967296)(E:∀ x∈l,x.slots.length<=4294967296):QgP l=some (bP (Qm l)):=by
 refine Gd.eq ?_;unfold QgP;refine Gd.bndR (P:=λz=>(z = .inl ()/\Qm l)\/(z = .inr false/\¬ Qm l)) ?_ (λ_ d=>?_) (λr d=>?_)
 ·refine Gd.loop (λx:Int=>∃ k:Nat,x=k/\k<=l.length/\(∀ i (h:i<l.length),i<k->SetOk l[i])/\∀ i (h:i+1<l.length),i+1<k->QY l[i] l[i+1]) _ (λx=>l.length-x.toNat) ⟨0,rfl,WR _,λi _ h=>absurd h (WZ _),λi _ h=>absurd h (WZ _)⟩ ?_;rintro x ⟨k,rfl,hk,hok,hkey⟩;refine .ite (λa=>?_) λa=>.out (.inl ⟨rfl,λx F=>?_,λi h=>hkey i h Oo⟩)
  ·have a:k<l.length:=by omega
   have p:w64 ((k:Int)+1)=((k+1:Nat):Int):=Qd Oo;have F:=E _ (Wd a);have g:¬ SetOk l[k]->¬ Qm l:=λh k=>h (k.1 _ (Wd a));refine Gd.bndR (P:=λz=>(z = .inl ()/\SetOk l[k]/\∀ h:k-1+1<l.length,0<k->QY l[k-1] l[k-1+1])\/(z = .inr (.out (.inr false))/\¬ Qm l)) ?_ (λ_ d=>?_) (λr d=>?_)
   ·refine .atN a ?_;have H:∀ i (h:i<l.length),i<k->Rng l[i]:=λi h A=>(hok i h A).rng;refine .call (number_c _) ?_;refine .ite (λB=>?_) λB=>.some (.inr ⟨rfl,g λh=>B (QbD h.1)⟩);obtain ⟨u,v⟩:=Q0.1 B;refine .call (number_c _) ?_;refine .ite (λC=>?_) λC=>.some (.inr ⟨rfl,g λh=>C (QbD h.2.1)⟩);obtain ⟨w,y⟩:=Q0.1 C;have o:(b:∀ h:k-1+1<l.length,0<k->QY l[k-1] l[k-1+1])->(m:¬ (l[k].slots.length:Int)=0)->(D:¬ l[k].slots[0]' Oo<0)->∀ z:Unit ⊕ LS Int (Unit ⊕ Bool),((z = .inl ()/\Asc l[k].slots)\/(z = .inr (.out (.inr false))/\¬ Asc l[k].slots))->(z = .inl ()/\SetOk l[k]/\∀ h:k-1+1<l.length,0<k->QY l[k-1] l[k-1+1])\/(z = .inr (.out (.inr false))/\¬ Qm l):=λb m D z M=>by
     rcases M with ⟨rfl,h⟩ | ⟨rfl,h⟩
     ·exact .inl ⟨rfl,⟨⟨u,v⟩,⟨w,y⟩,Oo,λ_=>by omega,h⟩,b⟩
     ·exact .inr ⟨rfl,g λk=>h k.2.2.2.2⟩
    refine .ite (λD=>?_) λD=>?_
    ·have I:w64 ((k:Int)-1)=((k-1:Nat):Int):=by rw[Qd Oo];omega
     rw[I];refine .atN (show k-1<l.length by omega) ?_;refine .call (before_c _ _) ?_;refine .ite (λe=>?_) λe=>.some (.inr ⟨rfl,λh=>e (QbD (h.2 (k-1) Oo |> keyAt Oo))⟩);have q:QY l[k-1] l[k]:=Q0.1 e;have b:∀ h:k-1+1<l.length,0<k->QY l[k-1] l[k-1+1]:=λh _=>keyAt Oo q;refine .ite (λm=>.some (.inr ⟨rfl,g λh=>by have:=h.2.2.1;omega⟩)) λm=>?_;refine .at0 (show 0<l[k].slots.length by omega) ?_;refine .ite (λf=>.some (.inr ⟨rfl,g λh=>by have:=h.2.2.2.1 Oo;omega⟩)) λf=>?_;refine Gd.mono ?_ (o b m f);refine Gd.loop (λx:Int=>∃ i:Nat,x=i/\1<=i/\i<=l[k].slots.length/\∀ j (h:j+1<l[k].slots.length),j+1<i->l[k].slots[j]<l[k].slots[j+1]) _ (λx=>l[k].slots.length-x.toNat) ⟨1,rfl,Wn _,Oo,λj _ h=>by omega⟩ ?_;rintro x ⟨i,rfl,hi1,hi2,hasc⟩;refine .ite (λc=>?_) λc=>.out (.inl ⟨rfl,λj h=>hasc j h Oo⟩);have c:i<l[k].slots.length:=by omega
     have s:w64 ((i:Int)-1)=((i-1:Nat):Int):=by rw[Qd Oo];omega
     have t:w64 ((i:Int)+1)=((i+1:Nat):Int):=Qd Oo;rw[s,t];refine .atN (show i-1<_ by omega) ?_;refine .atN c ?_;refine .ite (λn=>.out (.inr ⟨rfl,λh=>by have:=h (i-1) Oo;simp only[show i-1+1=i by omega]at this;omega⟩)) λn=>?_;refine .go ⟨i+1,rfl,Oo,c,λj h N=>?_⟩ Oo;by_cases L:j+1=i
     ·obtain rfl:j=i-1:=by omega
      simp only[show i-1+1=i by omega];omega
     ·exact hasc j h Oo
    ·have b:∀ h:k-1+1<l.length,0<k->QY l[k-1] l[k-1+1]:=λh O=>absurd O Oo;refine .ite (λm=>.some (.inr ⟨rfl,g λh=>by have:=h.2.2.1;omega⟩)) λm=>?_;refine .at0 (show 0<l[k].slots.length by omega) ?_;refine .ite (λf=>.some (.inr ⟨rfl,g λh=>by have:=h.2.2.2.1 Oo;omega⟩)) λf=>?_;refine Gd.mono ?_ (o b m f);refine Gd.loop (λx:Int=>∃ i:Nat,x=i/\1<=i/\i<=l[k].slots.length/\∀ j (h:j+1<l[k].slots.length),j+1<i->l[k].slots[j]<l[k].slots[j+1]) _ (λx=>l[k].slots.length-x.toNat) ⟨1,rfl,Wn _,Oo,λj _ h=>by omega⟩ ?_;rintro x ⟨i,rfl,hi1,hi2,hasc⟩;refine .ite (λc=>?_) λc=>.out (.inl ⟨rfl,λj h=>hasc j h Oo⟩);have c:i<l[k].slots.length:=by omega
     have s:w64 ((i:Int)-1)=((i-1:Nat):Int):=by rw[Qd Oo];omega
     have t:w64 ((i:Int)+1)=((i+1:Nat):Int):=Qd Oo;rw[s,t];refine .atN (show i-1<_ by omega) ?_;refine .atN c ?_;refine .ite (λn=>.out (.inr ⟨rfl,λh=>by have:=h (i-1) Oo;simp only[show i-1+1=i by omega]at this;omega⟩)) λn=>?_;refine .go ⟨i+1,rfl,Oo,c,λj h N=>?_⟩ Oo;by_cases L:j+1=i
     ·obtain rfl:j=i-1:=by omega
      simp only[show i-1+1=i by omega];omega
     ·exact hasc j h Oo
   ·rcases d with ⟨_,J,K⟩ | ⟨h,_⟩
    ·rw[p];refine .go ⟨k+1,rfl,a,λi h c=>?_,λi h c=>?_⟩ Oo
     ·by_cases G:i=k
      ·subst G;exact J
      ·exact hok i h Oo
     ·by_cases G:i+1=k
      ·obtain rfl:i=k-1:=by omega
       exact K h Oo
      ·exact hkey i h Oo
    ·cases h
   ·rcases d with ⟨h,_⟩ | ⟨h,d⟩
    ·cases h
    ·injection h with h;subst h;exact .inr ⟨rfl,d⟩
  ·obtain ⟨i,c,rfl⟩:=WP.1 F;exact hok i c Oo
 ·rcases d with ⟨_,h⟩ | ⟨h,_⟩
  ·exact .t h
  ·cases h
 ·rcases d with ⟨h,_⟩ | ⟨h,d⟩
  ·cases h
  ·injection h with h;rw[h,Qgo d]
theorem wAt_q(s:Sp)(q:Nat):wAt s (q:Int)=(s.ws[q]?).getD 0:=by
 by_cases h:q<s.ws.length
 ·rw[Z6 (Wa h),Wa h];rfl
 ·rw[Wh Oo];unfold wAt;rw[dif_neg (by rw[Wc];exact λk=>h k.2)];rfl
theorem QN.hands{h:Hp}{a:List (List Itm)}(H:QN h a){R:Rts}(y:Qce R)(x:∀ i∈ZP R,1<=Qz R i/\∃ r d,ObjZ (szS h.space) a.flatten (Qz R i-1).toNat r d)(s:Int)(t:Sts)(b:Bool):QN ⟨h.config,h.space,h.belts,h.seq,h.sets,R,s,t,b⟩ a:=by obtain ⟨c,e,f,g,j,k,l,m,n,z,A,o,p,q,u,v,w⟩:=H;exact ⟨c,e,f,g,j,k,l,m,n,y,x,o,p,q,u,v,w⟩
def takR(R:Rts)(i:Nat)(w:Int):Rts:=⟨R.used.set i true,R.refs.set i w⟩
def drpR(R:Rts)(i:Nat):Rts:=⟨R.used.set i false,R.refs.set i 0⟩
theorem refAt_set{us:List Bool}{b:List Int}{i j:Nat}{w:Int}:Qz ⟨us,b.set i w⟩ j=if i=j/\i<b.length then w else(b[j]?).getD 0:=by
 unfold Qz;rw[Uo];by_cases e:i=j
 ·rw[if_pos e];by_cases a:i<b.length
  ·rw[if_pos a,if_pos ⟨e,a⟩];rfl
  ·rw[if_neg a,if_neg λk=>a k.2,Wh Oo]
 ·rw[if_neg e,if_neg λk=>e k.1]
theorem tak_ok{R:Rts}(h:Qce R){i:Nat}{w:Int}(g:i<32)(f:U64 w):Qce (takR R i w):=by
 have c:=h.u;have d:=h.v;refine ⟨by unfold takR;rw[Wy];exact c,by unfold takR;rw[Wy];exact d,λj b a=>?_,λx e=>?_⟩
 ·have b:j<(R.used.set i true).length:=b;have a:j<(R.refs.set i w).length:=a;show (R.used.set i true)[j]=false->(R.refs.set i w)[j]=0;rw[Uv,Uv];intro k;split at k
  ·cases k
  ·rename_i hne;rw[if_neg hne];exact h.z j (by rw[Wy]at b;exact b) (by rw[Wy]at a;exact a) k
 ·rcases W2 e with k | k
  ·exact h.w x k
  ·rw[k];exact f
theorem drp_ok{R:Rts}(h:Qce R){i:Nat}(f:i<32):Qce (drpR R i):=by
 have c:=h.u;have d:=h.v;refine ⟨by unfold drpR;rw[Wy];exact c,by unfold drpR;rw[Wy];exact d,λj b a=>?_,λx e=>?_⟩
 ·have b:j<(R.used.set i false).length:=b;have a:j<(R.refs.set i 0).length:=a;show (R.used.set i false)[j]=false->(R.refs.set i 0)[j]=0;rw[Uv,Uv];intro k;split at k
  ·rename_i he;rw[if_pos he]
  ·rename_i hne;rw[if_neg hne];exact h.z j (by rw[Wy]at b;exact b) (by rw[Wy]at a;exact a) k
 ·rcases W2 e with k | k
  ·exact h.w x k
  ·rw[k];unfold U64;omega
theorem tak_live{R:Rts}(h:Qce R){i j:Nat}{w:Int}(b:i<32):j∈ZP (takR R i w)<->j=i\/j∈ZP R:=by
 have a:=h.u;rw[Z8,Z8];unfold takR;dsimp only;rw[Uo];by_cases e:i=j
 ·rw[if_pos e,if_pos Oo];simp[e]
 ·rw[if_neg e];exact ⟨.inr,λk=>k.elim (λq=>absurd q.symm e) id⟩
theorem drp_live{R:Rts}(h:Qce R){i j:Nat}(b:i<32):j∈ZP (drpR R i)<->j≠i/\j∈ZP R:=by
 have a:=h.u;rw[Z8,Z8];unfold drpR;dsimp only;rw[Uo];by_cases e:i=j
 ·rw[if_pos e,if_pos Oo];simp[e]
 ·rw[if_neg e];exact ⟨λk=>⟨λq=>e q.symm,k⟩,λk=>k.2⟩
theorem tak_ref{R:Rts}(h:Qce R){i j:Nat}{w:Int}(b:i<32):Qz (takR R i w) j=if j=i then w else Qz R j:=by
 have a:=h.v;unfold takR;rw[refAt_set];by_cases e:j=i
 ·rw[if_pos e,if_pos ⟨e.symm,Oo⟩]
 ·rw[if_neg e,if_neg λk=>e k.1.symm];rfl
theorem drp_ref{R:Rts}{i j:Nat}(e:j≠i):Qz (drpR R i) j=Qz R j:=by unfold drpR;rw[refAt_set,if_neg λk=>e k.1.symm];rfl
theorem QN.take{h:Hp}{c:List (List Itm)}(H:QN h c){i:Nat}(a:i<32){w:Int}(k:1<=w)(g:U64 w){r d:Nat}(l:ObjZ (szS h.space) c.flatten (w-1).toNat r d)(s:Int)(t:Sts)(b:Bool):QN ⟨h.config,h.space,h.belts,h.seq,h.sets,takR h.roots i w,s,t,b⟩ c:=by
 refine H.hands (tak_ok H.rts a g) (λj f=>?_) s t b;rw[tak_ref H.rts a];by_cases e:j=i
 ·rw[if_pos e];exact ⟨k,r,d,l⟩
 ·rw[if_neg e];exact H.roots j (((tak_live H.rts a).1 f).resolve_left e)
theorem QN.dropH{h:Hp}{c:List (List Itm)}(H:QN h c){i:Nat}(a:i<32)(s:Int)(t:Sts)(b:Bool):QN ⟨h.config,h.space,h.belts,h.seq,h.sets,drpR h.roots i,s,t,b⟩ c:=by refine H.hands (drp_ok H.rts a) (λj f=>?_) s t b;obtain ⟨d,e⟩:=(drp_live H.rts a).1 f;rw[drp_ref d];exact H.roots j e
structure FldX(h:Hp)(BL:List (List Itm))(x:Itm)(p r d k:Nat):Prop where
 H:QN h BL
 hx:x∈BL.flatten
 hp:(p,r,d)∈obs 0 x.os
 k1:1<=k
 k2:k<=r+d
section
variable{h:Hp}{BL:List (List Itm)}{x:Itm}{p r d k:Nat}
def QeP(s:Sp)(x:Itm)(p k:Nat)(w:Int):Sp:=⟨s.sh,s.ws.set (adr (szS s) x.fr (p+k)) w,s.fs⟩
theorem FldX.lt(X:FldX h BL x p r d k):adr (szS h.space) x.fr (p+k)<h.space.ws.length:=by have a:=X.H.sp.each x X.hx;have b:=Itm.posOk X.H.sp.ok a X.hp;have:=X.k2;exact Qan X.H.sp.ok.shp a.inc.ch.lt (p:=p+k) Oo
theorem FldX.sp(X:FldX h BL x p r d k){w:Int}(A:U64 w):Qcq (QeP h.space x p k w) BL.flatten:=by
 have n:=X.H.sp.each x X.hx;have u:=X.lt;have f:ZO (QeP h.space x p k w):=by
  refine sp_ws X.H.sp.ok (by rw[Wy]) λj v b a B C e=>?_;rw[Uv];by_cases t:adr (szS h.space) x.fr (p+k)=a
  ·have s:=(Zz X.H.sp.ok n X.hp (k:=k) X.k2 (q:=(a:Int)) Oo (by rw[Wc,t])).1;have g:X8 h.space (a:Int)=j:=by unfold X8;rw[Wc];exact e
   rw[g]at s;exact absurd b (n.inc.toIncC.own j s v)
  ·rw[if_neg t]
 refine ⟨f,⟨λy c=>?_,X.H.sp.w.2⟩,λy c=>?_,X.H.sp.seqs,X.H.sp.all⟩
 ·rcases W2 c with q | q
  ·exact X.H.sp.w.1 y q
  ·rw[q];exact A
 ·have i:=X.H.sp.each y c;have l:=i.inc;refine ⟨{ l.toIncC with wd:=?_,len:=l.len },?_⟩
  ·have:=l.wd;show 0<=y.i.words/\y.i.words<=((h.space.ws.set _ w).length:Int);rw[Wy];exact this
  ·refine Lay.heads (z:=szS h.space) (ws:=h.space.ws) i.lay λo b=>?_;show (h.space.ws.set (adr (szS h.space) x.fr (p+k)) w)[adr (szS h.space) y.fr o.1]?=_;have m:adr (szS h.space) x.fr (p+k)≠adr (szS h.space) y.fr o.1:=λe=>by have:=obj_inj X.H X.hx c X.hp (p':=o.1) (r':=o.2.1) (d':=o.2.2) (k':=0) b X.k2 Oo e;have:=X.k1;omega
   rw[WJ m];exact (i.lay.get o b).2.2.2.2
theorem FldX.wne(X:FldX h BL x p r d k){w:Int}{q:Nat}(a:q≠adr (szS h.space) x.fr (p+k)):wAt (QeP h.space x p k w) (q:Int)=wAt h.space (q:Int):=by rw[wAt_q,wAt_q];unfold QeP;dsimp only;rw[WJ a.symm]
theorem FldX.weq(X:FldX h BL x p r d k){w:Int}:wAt (QeP h.space x p k w) ((adr (szS h.space) x.fr (p+k):Nat):Int)=w:=by rw[wAt_q];unfold QeP;dsimp only;rw[WL X.lt];rfl
theorem FldX.nslot(X:FldX h BL x p r d k)(n:r<k){q:Nat}(c:QaB (szS h.space) BL.flatten q):q≠adr (szS h.space) x.fr (p+k):=by obtain ⟨y,b,f,g,i,a,j,l,m,rfl⟩:=c;intro e;have:=obj_inj X.H b X.hx a X.hp Oo X.k2 e;omega
theorem FldX.slot(X:FldX h BL x p r d k)(a:k<=r):QaB (szS h.space) BL.flatten (adr (szS h.space) x.fr (p+k)):=⟨x,X.hx,p,r,d,X.hp,k,X.k1,a,rfl⟩
theorem fldS_need{s:Sp}{x:Itm}{p k:Nat}{w q v:Int}:Qbc (QeP s x p k w) q v<->Qbc s q v:=by unfold Qbc QeP;dsimp only;rw[Wy];exact Iff.rfl
theorem FldX.data(X:FldX h BL x p r d k)(F:r<k){w:Int}(G:U64 w)(s:Int)(t:Sts)(b:Bool):QN ⟨h.config,QeP h.space x p k w,h.belts,h.seq,h.sets,h.roots,s,t,b⟩ BL:=by
 have f:=X.sp G;have c:∀ q,QaB (szS h.space) BL.flatten q->wAt (QeP h.space x p k w) (q:Int)=wAt h.space (q:Int):=λq a=>X.wne (X.nslot F a);obtain ⟨g,i,j,H,l,m,n,o,u,v,y,z,A,B,C,D,E⟩:=X.H;refine ⟨g,i,j,f,l,m,n,o,u,v,y,λq a=>?_,A,B,C,λq a e=>?_,E⟩
 ·have a:QaB (szS h.space) BL.flatten q:=a;show RefW _ _ (wAt (QeP h.space x p k w) (q:Int));rw[c q a];exact z q a
 ·have a:QaB (szS h.space) BL.flatten q:=a;have e:Qbc (QeP h.space x p k w) (q:Int) (wAt (QeP h.space x p k w) (q:Int)):=e;show InS h.sets (X8 h.space (q:Int):Int) (X8 h.space (wAt (QeP h.space x p k w) (q:Int)-1):Int) (q:Int);rw[c q a]at e ⊢;exact D q a (fldS_need.1 e)
def refH(h:Hp)(x:Itm)(p k:Nat)(w:Int):Hp:=⟨h.config,QeP h.space x p k w,h.belts,h.seq,Qco (QeP h.space x p k w) h.sets ((adr (szS h.space) x.fr (p+k):Nat):Int) w,h.roots,h.since,h.stats,h.dead⟩
theorem FldX.ref(X:FldX h BL x p r d k)(R:k<=r){w:Int}(S:U64 w)(g:RefW (szS h.space) BL.flatten w):QN (refH h x p k w) BL:=by
 have c:=X.sp S;have i:=X.slot R;have T:=X.H.sp.each x X.hx;obtain ⟨s,u,m⟩:=noteK_ok c.ok X.H.sok X.H.sin ((adr (szS h.space) x.fr (p+k):Nat):Int) w;have j:∀ q:Nat,wAt (QeP h.space x p k w) (q:Int)=if (q:Nat)=adr (szS h.space) x.fr (p+k) then w else wAt h.space (q:Int):=λq=>by
  split
  ·rename_i e;rw[e];exact X.weq
  ·rename_i e;exact X.wne e
 have o:=X.H;obtain ⟨v,y,z,U,A,B,C,D,E,F,G,H,V,W,I,J,K⟩:=X.H;refine ⟨v,y,z,c,A,B,C,D,E,F,G,λq b=>?_,s,u,λf t q n=>?_,λq b a=>?_,K⟩
 ·have b:QaB (szS h.space) BL.flatten q:=b;show RefW _ _ (wAt (QeP h.space x p k w) (q:Int));rw[j q];split
  ·exact g
  ·exact H q b
 ·rcases (m f t q).1 n with n | ⟨a,rfl,rfl,rfl⟩
  ·exact I f t q n
  ·refine ⟨by rw[Wc];exact i,rfl,?_⟩;rcases g with g | ⟨P,Y,Z,Q⟩
   ·exact absurd g a.1.1
   ·obtain ⟨L,M⟩:=obj_owned o.sp Q (q:=w-1) Oo rfl;obtain ⟨N,O⟩:=fs_at (show ((X8 (QeP h.space x p k w) (w-1):Nat):Int).toNat=X8 h.space (w-1) from by rw[Wc];rfl) L M;exact ⟨N,Oo,O⟩
 ·have b:QaB (szS h.space) BL.flatten q:=b;have a:Qbc (QeP h.space x p k w) (q:Int) (wAt (QeP h.space x p k w) (q:Int)):=a;show InS (Qco (QeP h.space x p k w) h.sets ((adr (szS h.space) x.fr (p+k):Nat):Int) w) (X8 h.space (q:Int):Int) (X8 h.space (wAt (QeP h.space x p k w) (q:Int)-1):Int) (q:Int);by_cases e:q=adr (szS h.space) x.fr (p+k)
  ·have l:wAt (QeP h.space x p k w) (q:Int)=w:=by rw[e];exact X.weq
   rw[l]at a ⊢;refine (m _ _ _).2 (.inr ⟨by rw[e]at a;exact a,by rw[e];rfl,rfl,by rw[e]⟩)
  ·have l:=X.wne (w:=w) e;rw[l]at a ⊢;exact (m _ _ _).2 (.inl (J q b (fldS_need.1 a)))
end
theorem valid20_c{R:Rts}(h:Qce R):X1 R=some true:=by have d:=h.u;have e:=h.v;refine Gd.eq ?_;unfold X1;refine .pos Oo (.pos Oo ?_);refine Gd.bndR (P:=λz=>z = .inl ()) ?_ (λ_ a=>.some rfl) (λr a=>by cases a);refine Gd.find R.used (λ_=>False) Oo (λi b f=>?_) (λ_=>rfl);refine .atN b (.ite (λk=>.some (.inl ⟨id,rfl⟩)) λk=>?_);have k:¬ R.used[i]=true:=k;have c:=h.z i b Oo (by simpa using k);refine .atN Oo (.pos c (.some (.inl ⟨id,rfl⟩)))
def frsI(R:Rts):Option Nat:=(List.range R.used.length).find? λi=>R.used[i]? == some false
def takE(R:Rts)(w:Int):Rts×Int×Int:=match frsI R with
 | some i=>(takR R i w,((i+1:Nat):Int),0)
 | none=>(⟨[],[]⟩,0,15)
theorem take20_c{R:Rts}(h:Qce R)(w:Int):Jt R w=some (takE R w):=by
 have f:=h.u;have g:=h.v;refine Gd.eq ?_;unfold Jt;refine .call (valid20_c h) (.pos rfl ?_);refine Gd.bndR (P:=λz=>(z = .inl ()/\frsI R=none)\/z = .inr (takE R w)) ?_ (λ_ hP=>?_) (λr hP=>?_)
 ·refine Gd.find R.used (λx=>x=false) Oo (λi a b=>?_) (λb=>.inl ⟨rfl,?_⟩)
  ·refine .atN a (.ite (λk=>.some (.inl ⟨by simp[show R.used[i]=true from k],rfl⟩)) λk=>?_);have k:¬ R.used[i]=true:=k;have c:R.used[i]=false:=by simpa using k
   refine .call (copy20_c Oo Oo) (.atN a (.atN Oo (.some (.inr ⟨c,_,rfl,.inr ?_⟩))));have e:frsI R=some i:=by unfold frsI;rw[YM];refine ⟨by simp[Wa a,c],WE.2 a,λj d=>?_⟩;have:=b j Oo d;simp[Wa (show j<R.used.length by omega),this]
   unfold takE takR;rw[e,Qd Oo,Wc];rfl
  ·unfold frsI;rw[Yg];intro i a;rw[WE]at a;have:=b _ (Wd a);simp[Wa a,this]
 ·rcases hP with ⟨_,hP⟩ | hP
  ·refine .some ?_;unfold takE;rw[hP]
  ·cases hP
 ·rcases hP with ⟨hP,_⟩ | hP
  ·cases hP
  ·injection hP with hP
theorem frsI_some{R:Rts}(h:Qce R)(d:¬ (ZP R).length=32):∃ i,frsI R=some i/\i<32/\R.used[i]?=some false:=by
 have c:=h.u;cases e:frsI R with
 | none =>
  exfalso;apply d;unfold frsI at e;rw[Yg]at e;have:ZP R=List.range R.used.length:=by
   unfold ZP;rw[VI];intro i b;have a:=e i b;rw[WE]at b;rw[Wa b]at a ⊢;cases hb:R.used[i] with
   | true=>rfl
   | false=>rw[hb]at a;exact absurd rfl a
  rw[this,WQ,c]
 | some i =>unfold frsI at e;have a:=List.find?_some e;have f:=WE.1 (Ug e);exact ⟨i,rfl,Oo,by simpa using a⟩
theorem full28_c{h:Hp}(a:Qce h.roots):Js h=some (decide ((ZP h.roots).length=32)):=by have b:=a.u;unfold Js;rw[live20_c h.roots Oo];simp only[WV,Wb];congr 1;rw[decide_eq_decide];omega
def Qfv(R:Rts)(a:Int)(b:Bool):Int:=if a=0 then(if b=true then 16 else 0) else if a<0\/32<a then 14 else if R.used[(a-1).toNat]?=some true then 0 else 14
theorem Qc5{h:Hp}(e:Qce h.roots)(a:Int)(d:Bool):Zn h a d=some (Qfv h.roots a d):=by
 have f:=e.u;refine Gd.eq ?_;unfold Zn Qfv;refine .ite (λb=>?_) λb=>?_
 ·rw[if_pos b];exact .ite (λk=>.some (by rw[if_pos k])) λk=>.some (by rw[if_neg k])
 ·rw[if_neg b];refine .ite (λk=>.some (by rw[if_pos (.inl k)])) λg=>.ite (λk=>.some (by rw[if_pos (.inr k)])) λj=>?_;rw[if_neg Oo,Qd Oo];obtain ⟨i,rfl⟩:∃ i:Nat,a=((i+1:Nat):Int):=⟨(a-1).toNat,Oo⟩;have c:i<h.roots.used.length:=by omega
  rw[show ((i+1:Nat):Int)-1=(i:Int) by omega,Wc,Wa c];refine .atN c (.ite (λk=>.some (by rw[if_pos (by rw[show h.roots.used[i]=true from k])])) λk=>.some (by rw[if_neg (by simpa using k)]))
theorem hdlE_0{R:Rts}{a:Int}{b:Bool}(h:Qfv R a b=0):(a=0/\b=false)\/∃ i:Nat,a=((i+1:Nat):Int)/\i<32/\i∈ZP R:=by
 unfold Qfv at h;split at h
 ·rename_i e;split at h
  ·cases h
  ·rename_i k;exact .inl ⟨e,by simpa using k⟩
 ·split at h
  ·cases h
  ·split at h
   ·rename_i k;exact .inr ⟨(a-1).toNat,Oo,Oo,Z8.2 k⟩
   ·cases h
def QdG(R:Rts)(a:Int):Int:=if a=0 then 0 else Qz R (a-1).toNat
theorem QdJ{h:Hp}(d:Qce h.roots){a:Int}(f:0<=a/\a<=32):QK h a=some (QdG h.roots a):=by
 have e:=d.v;refine Gd.eq ?_;unfold QK QdG;refine .ite (λb=>.some (by rw[if_pos b])) λb=>?_;rw[if_neg b,Qd Oo];obtain ⟨i,rfl⟩:∃ i:Nat,a=((i+1:Nat):Int):=⟨(a-1).toNat,Oo⟩;have c:i<h.roots.refs.length:=by omega
 rw[show ((i+1:Nat):Int)-1=(i:Int) by omega,Wc];refine .atN c (.some ?_);unfold Qz;rw[Wa c];rfl
theorem drop20_c{R:Rts}(h:Qce R){i:Nat}(f:i<32)(c:i∈ZP R):Qar R ((i+1:Nat):Int)=some (drpR R i,0):=by
 have d:=h.u;have e:=h.v;have a:=Z8.1 c;rw[Wa Oo]at a;injection a with a;have b:JT R ((i+1:Nat):Int)=some 0:=by refine Gd.eq ?_;unfold JT;refine .call (valid20_c h) (.pos rfl (.neg Oo (.neg Oo ?_)));rw[Qd Oo,show ((i+1:Nat):Int)-1=(i:Int) by omega];exact .atN Oo (.pos a (.some rfl))
 refine Gd.eq ?_;unfold Qar;refine .call b (.pos rfl (.call (copy20_c Oo Oo) ?_));rw[Qd Oo,show ((i+1:Nat):Int)-1=(i:Int) by omega];exact .atN Oo (.atN Oo (.some rfl))
theorem obs_len':∀ (l:List (Nat×Nat)) (p:Nat),(obs p l).length=l.length
 | [],p=>rfl
 | (r,d) :: l,p=>congrArg (·+1) (obs_len' l _)
theorem Lay.len'{z:Nat}{ws:List Int}{fr:List Nat}:∀ {l:List (Nat×Nat)} {p q:Nat},Lay z ws fr p l q->p+l.length<=q
 | [],p,q,h=>by have:p=q:=h;simp;omega
 | (r,d) :: l,p,q,h=>by obtain ⟨b,c,e,a⟩:=h;have:=a.len';rw[W7];omega
section
variable{h:Hp}{BL:List (List Itm)}
theorem is_c(H:QN h BL){a:Int}(v:0<=a){r d:Nat}(u:ObjZ (szS h.space) BL.flatten a.toNat r d):QaQ h a=some true:=by
 obtain ⟨x,m,p,n,e⟩:=u;have c:=H.sp.each x m;obtain ⟨o,D⟩:=Zz H.sp.ok c n (k:=0) Oo v e;have b:=c.inc.ch.lt _ o;have w:=(Jq H.sp.ok.shp.sh);refine Gd.eq ?_;unfold QaQ;refine .neg Oo (.neg Oo (.pos (wu_u _).1 ?_));rw[QfO H.sp.ok.shp.sh a.toNat Oo];have b:a.toNat/szS h.space<h.space.fs.length:=b;refine .atN (i:=a.toNat/szS h.space) b ?_;have g:(h.space.fs[a.toNat/szS h.space]'b).ow=x.i.seq:=(c.inc.toIncC.ow _ b).2 o;rw[g];refine .call (find11_c H.bsz _) ?_;have j:=find_uniq H.dist (x:=x.i) (by rw[H.flat];exact Vb m);rw[j];refine .pos rfl ?_;refine .call (all_spec H.sp.ok H.sp.w c) ?_;refine Gd.bndR (P:=λz=>z = .inr true) ?_ (λ_ f=>by cases f) (λr f=>by injection f with f);have s:a∈adrs h.space x:=by unfold adrs;exact Wl.2 ⟨(p,r,d),n,by dsimp only;omega⟩
 have l:(adrs h.space x).length<=16384:=by unfold adrs;rw[Wb,obs_len'];have A:=c.lay.len';have B:=c.inc.wd;have C:=Xv H.sp.ok;omega
 refine Gd.find (adrs h.space x) (λy=>y=a) Oo (λi t q=>?_) (λq=>absurd rfl (q a s));exact .atN t (.ite (λk=>.some (.inr ⟨k,_,rfl,rfl⟩)) λk=>.some (.inl ⟨k,rfl⟩))
end
theorem rnd_keep{h:Hp}{f:List (List Itm)}(H:QN h f)(d:h.seq+256<=4294967294)(n:Int) :
  (QdH n 300 h ⟨0,false,0⟩).1.roots.used=h.roots.used/\(QdH n 300 h ⟨0,false,0⟩).1.space.sh=h.space.sh/\(QdH n 300 h ⟨0,false,0⟩).1.space.ws.length=h.space.ws.length:=by obtain ⟨g,b,m,i,s,j,a,c⟩:=rnd_ok H d n;have a:=s.keep;rcases c with ⟨e,_⟩ | ⟨e,_⟩ <;> (rw[e];exact ⟨a.2.2.2.2.2.1,a.2.2.2.2.2.2.1,a.2.2.2.2.2.2.2.1⟩)
theorem col_keep{h:Hp}{c:List (List Itm)}(H:QN h c)(b:h.seq+256<=4294967294)(n:Int) :
  (Qcs h n).roots.used=h.roots.used/\(Qcs h n).space.sh=h.space.sh/\(Qcs h n).space.ws.length=h.space.ws.length:=by
 have a:QN (cntH h (sncR h)) c:=H.cnt _ _ _;unfold Qcs;split
 ·exact rnd_keep a b 0
 ·exact rnd_keep a b n
theorem alc_spec{h:Hp}{m:List (List Itm)}(H:QN h m)(u:h.seq+257<=4294967294)(o:¬ h.dead=true){b a:Int}(c:(Qd2 b a).2=0) :
  (QdU h b a=(ddH (Qcs h (1+b+a)),0,18)) \/
   ∃ r d:Nat,b=r/\a=d/\∃ h1 BL1 k x1,Xx h1 BL1 k x1 r d/\QdU h b a=(Qfk h1 k x1.i r d,QfU h1 x1.i r d,0)/\(h1=h\/h1=Qcs h (1+b+a)):=by
 have e:Qeg b a:=by
  unfold Qd2 at c;split at c
  ·assumption
  ·cases c
 unfold Qeg at e;obtain ⟨r,rfl⟩:∃ r:Nat,b=r:=⟨b.toNat,Oo⟩;obtain ⟨d,rfl⟩:∃ d:Nat,a=d:=⟨a.toNat,Oo⟩;have f:(1+(r:Int)+d)=((1+r+d:Nat):Int):=by push_cast;rfl
 obtain ⟨⟨BL1,n⟩,p,q,s,t⟩:=col_ok H Oo ((1+r+d:Nat):Int);unfold QdU;rw[if_neg o,if_pos c,f];by_cases j:(Xu h ((1+r+d:Nat):Int)).1=3
 ·rw[if_pos j];by_cases l:(Xu (Qcs h ((1+r+d:Nat):Int)) ((1+r+d:Nat):Int)).1=3
  ·rw[if_pos l];exact .inl rfl
  ·rw[if_neg l];obtain ⟨x1,g,X⟩:=plan_x n (r:=r) (d:=d) Oo Oo Oo (k:=(Xu (Qcs h ((1+r+d:Nat):Int)) ((1+r+d:Nat):Int)).1) (i:=(Xu (Qcs h ((1+r+d:Nat):Int)) ((1+r+d:Nat):Int)).2) rfl l;exact .inr ⟨r,d,rfl,rfl,_,BL1,_,x1,X,by rw[g],.inr rfl⟩
 ·rw[if_neg j];obtain ⟨x1,g,X⟩:=plan_x H (r:=r) (d:=d) Oo Oo Oo (k:=(Xu h ((1+r+d:Nat):Int)).1) (i:=(Xu h ((1+r+d:Nat):Int)).2) rfl j;exact .inr ⟨r,d,rfl,rfl,_,m,_,x1,X,by rw[g],.inl rfl⟩
theorem Xx.word1{h:Hp}{c:List (List Itm)}{b:Int}{x:Itm}{r d:Nat}(X:Xx h c b x r d):0<=QfU h x.i r d/\QfU h x.i r d<16384:=by have e:=X.room';have a:=Qan X.own.1.shp X.own.2.2.inc.ch.lt (p:=x.i.words.toNat) (by rw[X.z];omega);have:=X.own.1.shp.small;rw[X.ats];rw[X.z]at a;have a:adr (szS h.space) (QaA h x r d).fr x.i.words.toNat<(Qdh h.space x r d).ws.length:=a;omega
def alcD(h:Hp)(r d:Int):Hp×Ans := if (Qd2 r d).2=0 then(if (ZP h.roots).length=32 then(h,⟨15,0⟩) else if (QdU h r d).2.2=0 then(⟨(QdU h r d).1.config,(QdU h r d).1.space,(QdU h r d).1.belts,(QdU h r d).1.seq,(QdU h r d).1.sets,(takE (QdU h r d).1.roots ((QdU h r d).2.1+1)).1,(QdU h r d).1.since,(QdU h r d).1.stats,(QdU h r d).1.dead⟩,⟨0,(takE (QdU h r d).1.roots ((QdU h r d).2.1+1)).2.1⟩) else((QdU h r d).1,⟨(QdU h r d).2.2,0⟩)) else(h,⟨(Qd2 r d).2,0⟩)
theorem takE_rng(R:Rts)(a:R.used.length=32)(w:Int):0<=(takE R w).2.1/\(takE R w).2.1<=32:=by
 unfold takE;cases e:frsI R with
 | none=>exact ⟨Vs _,by show (0:Int)<=32;omega⟩
 | some i =>have:=WE.1 (Ug e);show 0<=((i+1:Nat):Int)/\((i+1:Nat):Int)<=32;omega
theorem alcD_c{h:Hp}{m:List (List Itm)}(H:QN h m)(j:h.seq+257<=4294967294)(n:¬ h.dead=true)(o:AOp):JP h o=some (alcD h o.a o.b):=by
 refine Gd.eq ?_;unfold JP alcD;refine .call (live_c _ _) ?_;refine .ite (λb=>?_) λb=>?_
 ·have b:(Qd2 o.a o.b).2=0:=b;rw[if_pos b];refine .call (full28_c H.rts) ?_;refine .ite (λc=>?_) λc=>?_
  ·rw[if_pos (of_decide_eq_true c)];exact .some rfl
  ·rw[if_neg (λk=>c (decide_eq_true k))];refine .call (alloc_c H j _ _) ?_;refine .ite (λa=>?_) λa=>?_
   ·have a:(QdU h o.a o.b).2.2=0:=a;rw[if_pos a];rcases alc_spec H j n b with e | ⟨r,d,q,s,g,l,k,i,X,e,_⟩
    ·rw[e]at a;cases a
    ·have f:=X.inv.rts;have p:=X.word1;rw[e];dsimp only;rw[Qd Oo,Z5 Oo];refine .call (take20_c f _) ?_;have:=takE_rng (Qfk g k i.i r d).roots f.u (QfU g i.i r d+1);refine .some ?_;rw[Z5 Oo]
   ·have a:¬ (QdU h o.a o.b).2.2=0:=a;rw[if_neg a];exact .some rfl
 ·have b:¬ (Qd2 o.a o.b).2=0:=b;rw[if_neg b];exact .some rfl
structure OpOut(h:Hp)(r:Hp×Ans):Prop where
 inv:∃ BL,QN r.1 BL
 cfg:r.1.config=h.config
 ded:r.1.dead=h.dead
 lo:h.seq<=r.1.seq
 hi:r.1.seq<=h.seq+257
theorem OpOut.same{h:Hp}{b:List (List Itm)}(H:QN h b)(a:Ans):OpOut h (h,a):=⟨⟨b,H⟩,rfl,rfl,Vs _,by show h.seq<=h.seq+257;omega⟩
theorem alcD_ok{h:Hp}{z:List (List Itm)}(H:QN h z)(B:h.seq+257<=4294967294)(A:¬ h.dead=true)(g f:Int):(alcD h g f).2.err=18\/OpOut h (alcD h g f):=by
 unfold alcD;split
 ·rename_i hl;split
  ·exact .inr (.same H _)
  ·rename_i hf;rcases alc_spec H B A hl with e | ⟨r,d,D,E,a,l,k,b,X,e,y⟩
   ·rw[e,if_neg (by show ¬ (18:Int)=0;omega)];exact .inl rfl
   ·right;rw[e,if_pos rfl];dsimp only;have m:=X.inv;have C:=X.word1;have j:(Qfk a k b.i r d).config=h.config/\(Qfk a k b.i r d).dead=h.dead/\(Qfk a k b.i r d).roots.used=h.roots.used/\h.seq<=a.seq/\a.seq<=h.seq+256:=by
     rcases y with rfl | rfl
     ·exact ⟨rfl,rfl,rfl,Vs _,Oo⟩
     ·obtain ⟨_,q,s,t,u⟩:=col_ok H Oo (1+g+f);exact ⟨q,s,(col_keep H Oo (1+g+f)).1,t,u⟩
    have c:¬ (ZP (Qfk a k b.i r d).roots).length=32:=by unfold ZP;rw[j.2.2.1];exact hf
    obtain ⟨i,v,x,_⟩:=frsI_some m.rts c;have o:(takE (Qfk a k b.i r d).roots (QfU a b.i r d+1)).1=takR (Qfk a k b.i r d).roots i (QfU a b.i r d+1):=by unfold takE;rw[v]
    have n:=X.seqE;refine ⟨⟨Qba l k b (QaA a b r d),?_⟩,j.1,j.2.1,?_,?_⟩
    ·rw[o];have p:szS (Qfk a k b.i r d).space=szS a.space:=by show szS (putS a b.i r d)=_;rw[X.space];exact X.z
     exact m.take x (w:=QfU a b.i r d+1) Oo (by unfold U64;omega) (r:=r) (d:=d) (by rw[p,show QfU a b.i r d+1-1=QfU a b.i r d by omega];exact X.new) _ _ _
    ·show h.seq<=(Qfk a k b.i r d).seq;rw[n];split <;> omega
    ·show (Qfk a k b.i r d).seq<=_;rw[n];split <;> omega
 ·exact .inr (.same H _)
section
variable{h:Hp}{BL:List (List Itm)}
structure Qbw(h:Hp)(BL:List (List Itm))(i:Nat)(x:Itm)(p r d:Nat):Prop where
 H:QN h BL
 hi:i∈ZP h.roots
 hx:x∈BL.flatten
 hp:(p,r,d)∈obs 0 x.os
 e:Qz h.roots i=((adr (szS h.space) x.fr p:Nat):Int)+1
theorem root_x(H:QN h BL){i:Nat}(a:i∈ZP h.roots):∃ x p r d,Qbw h BL i x p r d:=by obtain ⟨f,r,d,x,b,p,c,e⟩:=H.roots i a;exact ⟨x,p,r,d,H,a,b,c,Oo⟩
section
variable{i:Nat}{x:Itm}{p r d:Nat}
theorem Qbw.i32(X:Qbw h BL i x p r d):i<32:=by have a:=X.H.rts.u;obtain ⟨b,_⟩:=Wm.1 (Z8.1 X.hi);omega
theorem Qbw.pos(X:Qbw h BL i x p r d):p+r+d<x.fr.length*szS h.space/\r<=15/\d<=32/\h.space.ws[adr (szS h.space) x.fr p]?=some (hdW r d):=Itm.posOk X.H.sp.ok (X.H.sp.each x X.hx) X.hp
theorem Qbw.lt(X:Qbw h BL i x p r d):adr (szS h.space) x.fr p<h.space.ws.length/\h.space.ws.length<=16384 :=
 ⟨Qan X.H.sp.ok.shp (X.H.sp.each x X.hx).inc.ch.lt (p:=p) (by have:=X.pos;omega),Xv X.H.sp.ok⟩
theorem Qbw.look(X:Qbw h BL i x p r d):Qx h.space (Qz h.roots i-1)=⟨r,d,0⟩:=by have a:=X.H.sp.each x X.hx;obtain ⟨b,c,e,f⟩:=X.pos;rw[X.e,show ((adr (szS h.space) x.fr p:Nat):Int)+1-1=((adr (szS h.space) x.fr p:Nat):Int) by omega];exact (Qer X.H.sp.ok a.inc.ch a.inc.own b c e f).1
theorem Qbw.obj(X:Qbw h BL i x p r d):0<=Qz h.roots i-1/\ObjZ (szS h.space) BL.flatten (Qz h.roots i-1).toNat r d:=by rw[X.e];exact ⟨Oo,x,X.hx,p,X.hp,Oo⟩
def fldK(r:Nat)(b:Int)(a:Bool):Nat:=if a then 1+b.toNat else 1+r+b.toNat
theorem Qbw.plc(X:Qbw h BL i x p r d)(b:Int)(a:Bool):PlcR h.space (Qz h.roots i-1) b a=if b<0\/(if a then(r:Int) else d)<=b then(0,17) else(((adr (szS h.space) x.fr (p+fldK r b a):Nat):Int),0):=by
 have e:=X.H.sp.each x X.hx;obtain ⟨j,k,l,m⟩:=X.pos;unfold PlcR;rw[X.look,if_neg Os];unfold FnR FbR;dsimp only;by_cases c:b<0\/(if a=true then(r:Int) else d)<=b
 ·rw[if_pos c,if_pos c]
 ·rw[if_neg c,if_neg c];have f:p+fldK r b a<x.fr.length*szS h.space:=by unfold fldK;cases a <;> simp at c ⊢ <;> omega
  have g:((if a=true then(1:Int) else 1+(r:Int))+b)=(fldK r b a:Int):=by unfold fldK;cases a <;> simp at c ⊢ <;> omega
  rw[g,X.e,show ((adr (szS h.space) x.fr p:Nat):Int)+1-1=((adr (szS h.space) x.fr p:Nat):Int) by omega,go_adr X.H.sp.ok.shp e.inc.ch e.inc.own (p:=p) Oo,if_pos f]
theorem Qbw.place(X:Qbw h BL i x p r d)(f:¬ h.dead=true){b:Int}(c:I64 b)(a:Bool):XZ h (Qz h.roots i-1) b a=some (PlcR h.space (Qz h.roots i-1) b a):=by have g:=X.lt;have e:=X.e;refine Gd.eq ?_;unfold XZ;refine .neg f (.call (is_c X.H X.obj.1 X.obj.2) (.pos rfl ?_));exact .call (place_c X.H.sp.ok.shp (Zj X.H.sp.ok.fm) X.H.sp.w (by unfold I64;omega) c a) (.some rfl)
theorem Qbw.fld(X:Qbw h BL i x p r d){b:Int}{a:Bool}(c:¬ (b<0\/(if a then(r:Int) else d)<=b)):FldX h BL x p r d (fldK r b a):=by refine ⟨X.H,X.hx,X.hp,?_,?_⟩ <;> (unfold fldK;cases a <;> simp at c ⊢ <;> omega)
end
theorem wrd_ref(H:QN h BL){a:Int}(c:Qfv h.roots a false=0):U64 (QdG h.roots a)/\RefW (szS h.space) BL.flatten (QdG h.roots a)/\QdG h.roots a<=h.space.ws.length/\0<=a/\a<=32:=by
 rcases hdlE_0 c with ⟨rfl,_⟩ | ⟨i,rfl,f,b⟩
 ·unfold QdG;rw[if_pos rfl];exact ⟨by unfold U64;omega,.inl rfl,Oo,Oo,Oo⟩
 ·obtain ⟨x,p,r,d,X⟩:=root_x H b;have:=X.lt;have e:=X.e;unfold QdG;rw[if_neg Oo,show ((i+1:Nat):Int)-1=(i:Int) by omega,Wc];exact ⟨by unfold U64;omega,.inr ⟨Oo,r,d,X.obj.2⟩,Oo,Oo,Oo⟩
theorem wrd_i(i:Nat)(R:Rts):QdG R ((i+1:Nat):Int)=Qz R i:=by unfold QdG;rw[if_neg Oo,show ((i+1:Nat):Int)-1=(i:Int) by omega,Wc]
def setW1(s:Sp)(q:Nat)(w:Int):Sp:=⟨s.sh,s.ws.set q w,s.fs⟩
def datH(h:Hp)(q w:Int):Hp:=⟨h.config,setW1 h.space q.toNat w,h.belts,h.seq,h.sets,h.roots,h.since,h.stats,h.dead⟩
def rfwH(h:Hp)(q w:Int):Hp:=⟨h.config,setW1 h.space q.toNat w,h.belts,h.seq,Qco (setW1 h.space q.toNat w) h.sets q w,h.roots,h.since,h.stats,h.dead⟩
theorem Qbw.wref{i:Nat}{x:Itm}{p r d:Nat}(X:Qbw h BL i x p r d)(y:¬ h.dead=true){b:Int}(w:I64 b)(g:(PlcR h.space (Qz h.roots i-1) b true).2=0){c:Int}(A:Qfv h.roots c false=0) :
  Xe h (Qz h.roots i-1) b (QdG h.roots c)=some (rfwH h (PlcR h.space (Qz h.roots i-1) b true).1 (QdG h.roots c),0)/\QN (rfwH h (PlcR h.space (Qz h.roots i-1) b true).1 (QdG h.roots c)) BL:=by
 obtain ⟨o,f,B,C,D⟩:=wrd_ref X.H A;have q:=Xv X.H.sp.ok;have a:=X.plc b true;have e:¬ (b<0\/(if true then(r:Int) else d)<=b):=λk=>by rw[a,if_pos k]at g;cases g
 have F:=X.fld e;have j:fldK r b true<=r:=by unfold fldK;simp at e ⊢;omega
 rw[if_neg e]at a;have s:=F.ref j o f;have l:=F.lt;have t:rfwH h (PlcR h.space (Qz h.roots i-1) b true).1 (QdG h.roots c)=refH h x p (fldK r b true) (QdG h.roots c):=by unfold rfwH refH QeP setW1;rw[a,Wc]
 refine ⟨Gd.eq ?_,by rw[t];exact s⟩;unfold Xe;refine .call (X.place y w true) ?_;refine .neg (by rw[g];omega) ?_;refine Gd.bind (P:=λz=>z=0) ?_ λz v=>?_
 ·refine .ite (λk=>.some g) λk=>.neg (by rw[Z5 Oo];omega) ?_;have k:¬ QdG h.roots c=0:=k;rcases f with f | ⟨f,E,G,u⟩
  ·exact absurd f k
  ·rw[Z5 Oo,Qd Oo];exact .call (is_c X.H Oo u) (.pos rfl (.some g))
 ·subst v;refine .pos rfl (.call (Qb8 X.H) ?_);have m:=F.sp o;have n:=note19_c m.ok X.H.sok (X.H.sok.sz X.H.sin) (p:=((adr (szS h.space) x.fr (p+fldK r b true):Nat):Int)) o;rw[a];refine .atN l ?_;rw[Wc];refine .call n (.some ?_);unfold rfwH QeP setW1;rw[Wc]
theorem Qbw.wdat{i:Nat}{x:Itm}{p r d:Nat}(X:Qbw h BL i x p r d)(n:¬ h.dead=true){b:Int}(l:I64 b)(g:(PlcR h.space (Qz h.roots i-1) b false).2=0){w:Int}(m:U64 w) :
  ZZ h (Qz h.roots i-1) b w=some (datH h (PlcR h.space (Qz h.roots i-1) b false).1 w,0)/\QN (datH h (PlcR h.space (Qz h.roots i-1) b false).1 w) BL:=by
 have a:=X.plc b false;have c:¬ (b<0\/(if false then(r:Int) else d)<=b):=λk=>by rw[a,if_pos k]at g;cases g
 have F:=X.fld c;have e:r<fldK r b false:=by unfold fldK;simp at c ⊢;omega
 rw[if_neg c]at a;have j:=F.data e m h.since h.stats h.dead;have f:=F.lt;refine ⟨Gd.eq ?_,?_⟩
 ·unfold ZZ;refine .call (X.place n l false) (.pos g (.call (Qb8 X.H) ?_));unfold datH setW1;rw[a];refine .atN f (.some rfl)
 ·unfold datH setW1;rw[a];exact j
end
def rtsH(h:Hp)(R:Rts):Hp:=⟨h.config,h.space,h.belts,h.seq,h.sets,R,h.since,h.stats,h.dead⟩
def plcD(h:Hp)(o:AOp):Int×Int:=PlcR h.space (QdG h.roots o.a-1) o.b (decide (o.code=2\/o.code=3))
def fldD(h:Hp)(o:AOp):Hp×Ans := if (plcD h o).2=0 then(if o.code=4 then(h,⟨0,wAt h.space (plcD h o).1⟩) else if o.code=2 then(if wAt h.space (plcD h o).1=0 then(h,⟨0,0⟩) else if (ZP h.roots).length=32 then(h,⟨15,0⟩) else(rtsH h (takE h.roots (wAt h.space (plcD h o).1)).1,⟨0,(takE h.roots (wAt h.space (plcD h o).1)).2.1⟩)) else if o.code=3 then(if Qfv h.roots o.c_ false=0 then(rfwH h (plcD h o).1 (QdG h.roots o.c_),⟨0,0⟩) else(h,⟨Qfv h.roots o.c_ false,0⟩)) else(datH h (plcD h o).1 (wu o.c_),⟨0,0⟩)) else(h,⟨(plcD h o).2,0⟩)
def doR(h:Hp)(o:AOp):Hp×Ans := if o.code<1\/10<o.code then(h,⟨if h.dead=true/\¬ o.code=0 then 19 else 20,0⟩) else if h.dead=true then(h,⟨19,0⟩) else if o.code=1 then alcD h o.a o.b else if o.code=8 then((QdH 0 300 (cntH h h.since) ⟨0,false,0⟩).1,⟨0,0⟩) else if o.code=10 then(h,⟨0,wu (sumW h.belts.flatten)⟩) else if o.code=6 then(if Qfv h.roots o.a false=0 then(if Qfv h.roots o.b false=0 then(h,⟨0,if QdG h.roots o.a=QdG h.roots o.b then 1 else 0⟩) else(h,⟨Qfv h.roots o.b false,0⟩)) else(h,⟨Qfv h.roots o.a false,0⟩)) else if Qfv h.roots o.a true=0 then(if o.code=7 then(rtsH h (drpR h.roots (o.a-1).toNat),⟨0,0⟩) else if o.code=9 then(h,⟨0,wu (256*(Qx h.space (QdG h.roots o.a-1)).r+(Qx h.space (QdG h.roots o.a-1)).d)⟩) else fldD h o) else(h,⟨Qfv h.roots o.a true,0⟩)
structure OpI(o:AOp):Prop where
 b:I64 o.b
section
variable{h:Hp}{BL:List (List Itm)}
theorem fld_c(H:QN h BL)(D:¬ h.dead=true){o:AOp}(B:OpI o)(I:Qfv h.roots o.a true=0)(O:o.code=2\/o.code=3\/o.code=4\/o.code=5):JO h o=some (fldD h o):=by
 obtain ⟨i,ei,hi,hl⟩:∃ i:Nat,o.a=((i+1:Nat):Int)/\i<32/\i∈ZP h.roots:=by
  rcases hdlE_0 I with ⟨_,k⟩ | k
  ·cases k
  ·exact k
 obtain ⟨x,p,r,d,X⟩:=root_x H hl;have C:QdG h.roots o.a=Qz h.roots i:=by rw[ei];exact wrd_i i _
 have E:=X.lt;have J:=H.sp.each x X.hx;have K:=X.e;have w:QK h o.a=some (Qz h.roots i):=by rw[QdJ H.rts Oo,C]
 have e:w64 (w64 (Qz h.roots i)-1)=Qz h.roots i-1:=by rw[Qd (n:=Qz h.roots i) Oo,Qd Oo]
 have s:=λc=>place_c H.sp.ok.shp (Zj H.sp.ok.fm) H.sp.w (a:=Qz h.roots i-1) (by unfold I64;omega) B.b c;have t:∀ c,(PlcR h.space (Qz h.roots i-1) o.b c).2=0->∃ q:Nat,(PlcR h.space (Qz h.roots i-1) o.b c).1=(q:Int)/\q<h.space.ws.length:=λc b=>by
  have l:=X.plc o.b c;have u:¬ (o.b<0\/(if c then(r:Int) else d)<=o.b):=λk=>by rw[l,if_pos k]at b;cases b
  rw[if_neg u]at l;exact ⟨_,by rw[l],(X.fld u).lt⟩
 refine Gd.eq ?_;unfold JO fldD plcD;rw[C];refine .ite (λf=>?_) λf=>?_
 ·have f:o.code=2:=f;have y:decide (o.code=2\/o.code=3)=true:=decide_eq_true (.inl f);rw[y];refine .call w ?_;rw[e];refine .call (s true) ?_;refine .ite (λb=>?_) λb=>?_
  ·have b:(PlcR h.space (Qz h.roots i-1) o.b true).2=0:=b;obtain ⟨q,m,v⟩:=t true b;rw[if_pos b,if_neg Oo,if_pos f,m];rw[Z6 (Wa v)];refine .atN v (.neg Oo ?_);refine .ite (λk=>.some (by rw[if_pos k])) λk=>?_;rw[if_neg k];refine .call (full28_c H.rts) (.ite (λz=>.some (by rw[if_pos (of_decide_eq_true z)])) λz=>?_);rw[if_neg (λk=>z (decide_eq_true k))];refine .call (Qb8 H) (.call (take20_c H.rts _) (.some ?_));have:=takE_rng h.roots H.rts.u h.space.ws[q];rw[Z5 Oo];rfl
  ·have b:¬ (PlcR h.space (Qz h.roots i-1) o.b true).2=0:=b;rw[if_neg b];exact .some rfl
 ·have f:¬ o.code=2:=f;have y:decide (o.code=2\/o.code=3)=decide (o.code=3):=by rw[decide_eq_decide];exact ⟨λk=>k.resolve_left f,.inr⟩
  rw[y];refine .call w ?_;rw[e];refine .call (s _) ?_;refine .ite (λb=>?_) λb=>?_
  ·have b:(PlcR h.space (Qz h.roots i-1) o.b (decide (o.code=3))).2=0:=b;obtain ⟨q,m,v⟩:=t _ b;rw[if_pos b,m];refine .atN v (.ite (λA=>?_) λA=>?_)
   ·rw[if_pos A,Z6 (Wa v)];exact .some rfl
   ·rw[if_neg A,if_neg f];refine .ite (λg=>?_) λg=>?_
    ·have g:o.code=3:=g;rw[if_pos g];rw[decide_eq_true g]at b m;refine .call (Qc5 H.rts _ _) (.ite (λj=>?_) λj=>?_)
     ·have j:Qfv h.roots o.c_ false=0:=j;rw[if_pos j];obtain ⟨L,M,N,F,G⟩:=wrd_ref H j;refine .call w (.call (QdJ H.rts ⟨F,G⟩) ?_);rw[e];refine .call (X.wref D B.b b j).1 (.some ?_);rw[m]
     ·have j:¬ Qfv h.roots o.c_ false=0:=j;rw[if_neg j];exact .some rfl
    ·have g:¬ o.code=3:=g;rw[if_neg g];rw[decide_eq_false g]at b m;refine .call w ?_;rw[e];refine .call (X.wdat D B.b b (wu_u _)).1 (.some ?_);rw[m]
  ·have b:¬ (PlcR h.space (Qz h.roots i-1) o.b (decide (o.code=3))).2=0:=b;rw[if_neg b];exact .some rfl
end
section
variable{h:Hp}{BL:List (List Itm)}
theorem hdl_i{R:Rts}{a:Int}(b:Qfv R a true=0):∃ i:Nat,a=((i+1:Nat):Int)/\i<32/\i∈ZP R:=by
 rcases hdlE_0 b with ⟨_,k⟩ | k
 ·cases k
 ·exact k
theorem collect_c(H:QN h BL)(b:h.seq+256<=4294967294)(a:¬ h.dead=true):XH h=some ((QdH 0 300 (cntH h h.since) ⟨0,false,0⟩).1,(QdH 0 300 (cntH h h.since) ⟨0,false,0⟩).2,0):=by refine Gd.eq ?_;unfold XH;refine .neg a ?_;have:=full_c (H.cnt h.since ⟨h.stats.allocated,h.stats.objects,w64 (h.stats.collections+1),h.stats.steps,h.stats.rounds,h.stats.condemned,h.stats.copied,h.stats.entries,h.stats.work⟩ h.dead) (by show h.seq+256<=_;omega);exact .call this (.some rfl)
set_option maxHeartbeats 1000000 in
theorem do28_c(H:QN h BL)(N:h.seq+257<=4294967294){o:AOp}(M:OpI o):QbJ h o=some (doR h o):=by
 refine Gd.eq ?_;unfold QbJ doR;have no:∀ e,Qt h e=some (h,⟨e,0⟩):=λ_=>rfl;have b:∀ {K:Option (Hp×Ans)},(o.code<1\/10<o.code)->Gd (λx=>x=(h,⟨if h.dead=true/\¬ o.code=0 then 19 else 20,0⟩)) (if h.dead=true then
   (if o.code=0 then((Qt h 20).bind λy=>some ((y.1,y.2))) else(Qt h 19).bind λz=>some ((z.1,z.2)))
   else(Qt h 20).bind λA=>some ((A.1,A.2))):=λ_=>by
  refine .ite (λk=>.ite (λj=>?_) λj=>?_) λk=>?_
  ·exact .call (no 20) (.some (by rw[if_neg λq=>q.2 j]))
  ·exact .call (no 19) (.some (by rw[if_pos ⟨k,j⟩]))
  ·exact .call (no 20) (.some (by rw[if_neg λq=>k q.1]))
 refine .ite (λk=>?_) λv=>.ite (λk=>?_) λj=>?_
 ·have k:o.code<1:=k;rw[if_pos (.inl k)];exact b (K:=none) (.inl k)
 ·have k:10<o.code:=k;rw[if_pos (.inr k)];exact b (K:=none) (.inr k)
 have v:¬ o.code<1:=v;have j:¬ 10<o.code:=j;rw[if_neg Oo];refine .ite (λf=>?_) λf=>?_
 ·rw[if_pos f];exact .call (no 19) (.some rfl)
 have f:¬ h.dead=true:=f;rw[if_neg f];refine .ite (λk=>?_) λk=>?_
 ·rw[if_pos k];exact .call (alcD_c H N f o) (.some rfl)
 rw[if_neg k];refine .ite (λl=>?_) λl=>?_
 ·rw[if_pos l];exact .call (collect_c H Oo f) (.some rfl)
 rw[if_neg l];refine .ite (λc=>?_) λc=>?_
 ·rw[if_pos c];have:Xf h=some (sumW h.belts.flatten):=by unfold Xf;rw[words11_c H.bsz H.wd];rfl
  exact .call this (.some rfl)
 rw[if_neg c];refine .ite (λm=>?_) λm=>?_
 ·rw[if_pos m];refine .call (Qc5 H.rts _ _) (.ite (λa=>?_) λa=>?_)
  ·have a:Qfv h.roots o.a false=0:=a;rw[if_pos a];refine .call (Qc5 H.rts _ _) (.ite (λg=>?_) λg=>?_)
   ·have g:Qfv h.roots o.b false=0:=g;rw[if_pos g];obtain ⟨_,_,_,F,G⟩:=wrd_ref H a;obtain ⟨_,_,_,I,J⟩:=wrd_ref H g;refine .call (QdJ H.rts ⟨F,G⟩) (.call (QdJ H.rts ⟨I,J⟩) ?_);have B:JN (decide (QdG h.roots o.a=QdG h.roots o.b))=some (if QdG h.roots o.a=QdG h.roots o.b then 1 else 0):=by
     unfold JN;by_cases e:QdG h.roots o.a=QdG h.roots o.b
     ·rw[if_pos (decide_eq_true e),if_pos e]
     ·rw[if_neg (by simpa using e),if_neg e]
    exact .call B (.some rfl)
   ·have g:¬ Qfv h.roots o.b false=0:=g;rw[if_neg g];exact .some rfl
  ·have a:¬ Qfv h.roots o.a false=0:=a;rw[if_neg a];exact .some rfl
 rw[if_neg m];refine .call (Qc5 H.rts _ _) (.ite (λa=>?_) λa=>?_)
 ·have a:Qfv h.roots o.a true=0:=a;rw[if_pos a];obtain ⟨i,u,L,w⟩:=hdl_i a;obtain ⟨x,p,r,d,X⟩:=root_x H w;have C:QdG h.roots o.a=Qz h.roots i:=by rw[u];exact wrd_i i _
  have D:=X.lt;have O:=X.e;have E:=X.pos;refine .ite (λs=>?_) λs=>?_
  ·rw[if_pos s];refine .call (Qb8 H) ?_;have:=drop20_c H.rts L w;rw[<- u]at this;refine .call this (.some ?_);rw[u,show ((i+1:Nat):Int)-1=(i:Int) by omega,Wc];rfl
  rw[if_neg s];refine .ite (λt=>?_) λt=>?_
  ·rw[if_pos t];refine .call (QdJ H.rts Oo) ?_;rw[C,Qd (n:=Qz h.roots i) Oo,Qd (n:=Qz h.roots i-1) Oo];refine .call (look_c H.sp.ok.shp (Zj H.sp.ok.fm) H.sp.w (by unfold I64;omega)) ?_;rw[X.look];dsimp only;rw[Qd (n:=256*(r:Int)) Oo,Qd Oo];exact .some rfl
  rw[if_neg t];refine .call (fld_c H f M a (by
   have k:¬ o.code=1:=k
   have l:¬ o.code=8:=l
   have c:¬ o.code=10:=c
   have m:¬ o.code=6:=m
   have s:¬ o.code=7:=s
   have t:¬ o.code=9:=t
   omega)) (.some rfl)
 ·have a:¬ Qfv h.roots o.a true=0:=a;rw[if_neg a];exact .some rfl
theorem rnd_out(H:QN h BL)(f:h.seq+256<=4294967294):OpOut h ((QdH 0 300 (cntH h h.since) ⟨0,false,0⟩).1,⟨0,0⟩):=by obtain ⟨b,c,d,e,a⟩:=rnd_inv (H.cnt h.since ⟨h.stats.allocated,h.stats.objects,w64 (h.stats.collections+1),h.stats.steps,h.stats.rounds,h.stats.condemned,h.stats.copied,h.stats.entries,h.stats.work⟩ h.dead) (by show h.seq+256<=_;omega) 0;have a:(QdH 0 300 (cntH h h.since) ⟨0,false,0⟩).1.seq<=h.seq+256:=a;exact ⟨b,c,d,e,by show (QdH 0 300 (cntH h h.since) ⟨0,false,0⟩).1.seq<=_;omega⟩
theorem do_ok(H:QN h BL)(C:h.seq+257<=4294967294){o:AOp}:(doR h o).2.err=18\/OpOut h (doR h o):=by
 have e:=λa=>OpOut.same H a;unfold doR;split
 ·exact .inr (e _)
 split
 ·exact .inr (e _)
 rename_i hd;split
 ·exact alcD_ok H C hd _ _
 split
 ·exact .inr (rnd_out H Oo)
 split
 ·exact .inr (e _)
 split
 ·split
  ·split
   ·exact .inr (e _)
   ·exact .inr (e _)
  ·exact .inr (e _)
 split
 ·rename_i ha;obtain ⟨i,q,y,z⟩:=hdl_i ha;obtain ⟨x,p,r,d,X⟩:=root_x H z;have s:QdG h.roots o.a=Qz h.roots i:=by rw[q];exact wrd_i i _
  have t:=X.lt;right;split
  ·rw[q,show ((i+1:Nat):Int)-1=(i:Int) by omega,Wc];exact ⟨⟨BL,H.dropH y _ _ _⟩,rfl,rfl,Vs _,by show h.seq<=_;omega⟩
  split
  ·exact e _
  ·unfold fldD;split
   ·rename_i h0;unfold plcD at h0 ⊢;rw[s]at h0 ⊢;split
    ·exact e _
    split
    ·rename_i k2;rw[decide_eq_true (.inl k2)]at h0 ⊢;split
     ·exact e _
     split
     ·exact e _
     ·rename_i hw hf;obtain ⟨j,A,B,_⟩:=frsI_some H.rts hf;have u:∀ w,(takE h.roots w).1=takR h.roots j w:=λw=>by unfold takE;rw[A]
      have b:=X.plc o.b true;have c:¬ (o.b<0\/(if true then(r:Int) else d)<=o.b):=λk=>by rw[b,if_pos k]at h0;cases h0
      have F:=X.fld c;have g:fldK r o.b true<=r:=by unfold fldK;simp at c ⊢;omega
      rw[if_neg c]at b;have l:=H.refs _ (F.slot g);have v:=QfK H.sp.w ((adr (szS h.space) x.fr (p+fldK r o.b true):Nat):Int);rw[b]at hw ⊢;rcases l with l | ⟨m,D,E,n⟩
      ·exact absurd l hw
      ·refine ⟨⟨BL,?_⟩,rfl,rfl,Vs _,by show h.seq<=_;omega⟩;rw[u];exact H.take B m v n _ _ _
    split
    ·rename_i k2 k3;rw[decide_eq_true (.inr k3)]at h0 ⊢;split
     ·rename_i hc;by_cases f:I64 o.b
      ·exact ⟨⟨BL,(X.wref hd f h0 hc).2⟩,rfl,rfl,Vs _,by show h.seq<=_;omega⟩
      ·exfalso;have b:=X.plc o.b true;have c:¬ (o.b<0\/(if true then(r:Int) else d)<=o.b):=λk=>by rw[b,if_pos k]at h0;cases h0
       have:=X.pos;simp at c;unfold I64 at f;omega
     ·exact e _
    ·rename_i k4 k2 k3;rw[decide_eq_false (by rintro (k | k);exact k2 k;exact k3 k)]at h0 ⊢;have f:I64 o.b:=by
      have b:=X.plc o.b false;have c:¬ (o.b<0\/(if false then(r:Int) else d)<=o.b):=λk=>by rw[b,if_pos k]at h0;cases h0
      have:=X.pos;simp at c;unfold I64;omega
     exact ⟨⟨BL,(X.wdat hd f h0 (wu_u _)).2⟩,rfl,rfl,Vs _,by show h.seq<=_;omega⟩
   ·exact e _
 ·exact .inr (e _)
end
structure GOk(g:Gra):Prop where
 u:g.used.length=32
 v:g.roots.length=32
 n:g.nodes.length<=1000000
 t:∀ (i:Nat),g.used[i]?=some true->∃ k:Nat,g.roots[i]?=some (k:Int)/\k<g.nodes.length
 r:∀ nd∈g.nodes,nd.refs.length<=15/\nd.data.length<=32/\(∀ v∈nd.refs,v = -1\/(0<=v/\v<g.nodes.length))/\∀ x∈nd.data,U64 x
inductive Rch(g:Gra):Nat->Prop
 | root {i v:Nat}:g.used[i]?=some true->g.roots[i]?=some (v:Int)->Rch g v
 | edge {u v:Nat} {nd:Nod}:Rch g u->g.nodes[u]?=some nd->(v:Int)∈nd.refs->Rch g v
theorem GOk.rlt{g:Gra}(h:GOk g){v:Nat}(r:Rch g v):v<g.nodes.length:=by
 cases r with
 | root h1 h2 =>obtain ⟨k,e,a⟩:=h.t _ h1;rw[h2]at e;injection e with e;omega
 | edge h1 h2 h3 =>have:=(h.r _ (Wq h2)).2.2.1 _ h3;omega
structure MrkI(g:Gra)(bs:List Bool):Prop where
 len:bs.length=g.nodes.length
 snd:∀ v,bs[v]?=some true->Rch g v
theorem MrkI.set{g:Gra}{b:List Bool}(h:MrkI g b){v:Nat}(c:Rch g v):MrkI g (b.set v true):=by
 refine ⟨by rw[Wy];exact h.len,λw a=>?_⟩;rw[Uo]at a;split at a
 ·rename_i e;rw[<- e];exact c
 ·exact h.snd w a
def MrkLe(a b:List Bool):Prop:=∀ v:Nat,a[v]?=some true->b[v]?=some true
theorem MrkLe.set(a:List Bool)(v:Nat):MrkLe a (a.set v true):=λw b=>by
 rw[Uo];obtain ⟨c,_⟩:=Wm.1 b;split
 ·rename_i e;rw[if_pos Oo]
 ·exact b
theorem MrkLe.trans{a b c:List Bool}(h:MrkLe a b)(k:MrkLe b c):MrkLe a c:=λv d=>k v (h v d)
def RootsIn(g:Gra)(a:List Bool):Prop:=∀ (i v:Nat),g.used[i]?=some true->g.roots[i]?=some (v:Int)->a[v]?=some true
def NodeIn(a:List Bool)(i:Nat)(nd:Nod)(k:Nat):Prop:=a[i]?=some true->∀ j (h:j<nd.refs.length),j<k->∀ v:Nat,nd.refs[j]=(v:Int)->a[v]?=some true
def rchL(g:Gra):List Int:=((List.range g.nodes.length).filter λv=>bP (Rch g v)).map λ(v:Nat)=>(v:Int)
theorem mark_set{a:List Bool}{v:Nat}(b:v<a.length)(h:¬ a[v]=true):a.count true<(a.set v true).count true:=by
 rw[List.count_set b];have:(a[v] == true)=false:=by simpa using h
 simp[this]
theorem reach_c{g:Gra}(h:GOk g):JM g=some (rchL g):=by
 have hu:=h.u;have u:=h.v;have hn:=h.n;refine Gd.eq ?_;unfold JM;refine .pos Oo ?_;refine Gd.bind (P:=λr=>MrkI g r/\RootsIn g r) ?_ λr B=>?_
 ·refine Gd.for g.used.length (λ(t:List Bool) i=>(t,i)) (λi t=>MrkI g t/\∀ (j v:Nat),j<i->g.used[j]?=some true->g.roots[j]?=some (v:Int)->t[v]?=some true) (List.replicate g.nodes.length false) (by rw[Wc]) (λ_ _=>rfl) Oo ⟨⟨W0,λv u=>by rw[V9]at u;split at u <;> cases u⟩,λj v A=>by omega⟩ (λi f t m=>?_) (λt m=>⟨m.1,λi v a o=>m.2 i v (Wm.1 a).1 a o⟩);refine .atN f (.ite (λk=>?_) λk=>.some (.inl ⟨t,rfl,m.1,λj v A a o=>?_⟩))
  ·have k:g.used[i]=true:=k;have J:g.used[i]?=some true:=by rw[Wa f,k]
   obtain ⟨w,e,hw⟩:=h.t i J;obtain ⟨hr,er⟩:=Wm.1 e;refine .atN hr ?_;rw[er];have K:w<t.length:=by rw[m.1.len];exact hw
   refine .atN K (.some (.inl ⟨t.set w true,by rw[Wc],m.1.set (.root J e),λj v A a o=>?_⟩));by_cases H:j=i
   ·subst H;rw[e]at o;injection o with o;have:w=v:=by omega
    subst this;rw[WL K]
   ·exact MrkLe.set t w v (m.2 j v Oo a o)
  ·have k:¬ g.used[i]=true:=k;by_cases H:j=i
   ·subst H;rw[Wa f]at a;injection a with a;exact absurd a k
   ·exact m.2 j v Oo a o
 refine Gd.bind (P:=λr=>MrkI g r/\∀ v,Rch g v->r[v]?=some true) ?_ λr B=>?_
 ·refine Gd.loop (λ(s:List Bool×Bool)=>MrkI g s.1/\RootsIn g s.1/\(s.2=false->∀ (i:Nat) (f:i<g.nodes.length),NodeIn s.1 i g.nodes[i] g.nodes[i].refs.length)) _ (λs=>2*(g.nodes.length-s.1.count true)+(if s.2=true then 1 else 0)) ⟨B.1,B.2,λe=>by cases e⟩ ?_;rintro ⟨c,O⟩ ⟨p,y,hb3⟩;dsimp only at p y hb3;refine .ite (λn=>?_) λn=>.out ⟨p,λv u=>?_⟩
  ·have n:O=true:=n;subst n;refine Gd.for g.nodes.length (λ(t:List Bool×Bool) i=>(t.1,t.2,i)) (λi t=>MrkI g t.1/\MrkLe c t.1/\(t.2=false->t.1=c/\∀ (k:Nat) (hk:k<g.nodes.length),k<i->NodeIn c k g.nodes[k] g.nodes[k].refs.length)/\(t.2=true->c.count true<t.1.count true)) (c,false) rfl (λ_ _=>rfl) Oo ⟨p,λ_ h=>h,λ_=>⟨rfl,λk _ hk=>by omega⟩,λe=>by cases e⟩ (λi f t m=>?_) (λt m=>?_)
   ·obtain ⟨S,Y,Q,Z⟩:=m;have ab:=h.r _ (Wd f);refine Gd.bind (P:=λb:List Bool×Bool=>MrkI g b.1/\MrkLe c b.1/\(b.2=false->b.1=c/\t.2=false/\NodeIn c i g.nodes[i] g.nodes[i].refs.length)/\(b.2=true->c.count true<b.1.count true)) ?_ λb z=>.some (.inl ⟨b,rfl,z.1,z.2.1,λe=>⟨(z.2.2.1 e).1,λk hk ad=>?_⟩,z.2.2.2⟩)
    ·refine .atN f ?_;refine Gd.for g.nodes[i].refs.length (λ(t:List Bool×Bool) i=>(t.1,t.2,i)) (λj b=>MrkI g b.1/\MrkLe c b.1/\(b.2=false->b.1=c/\t.2=false/\NodeIn c i g.nodes[i] j)/\(b.2=true->c.count true<b.1.count true)) t rfl (λ_ _=>rfl) Oo ⟨S,Y,λe=>⟨(Q e).1,e,λ_ j _ A=>by omega⟩,Z⟩ (λj A b z=>?_) (λb z=>z);obtain ⟨G,T,b3,U⟩:=z;have D:i<b.1.length:=by rw[G.len];exact f
     have x:(¬ b.1[i]=true\/(∀ v:Nat,g.nodes[i].refs[j]=(v:Int)->b.1[v]?=some true))->(b.2=false->b.1=c/\t.2=false/\NodeIn c i g.nodes[i] (j+1)):=λhk e=>by
      obtain ⟨I,R,e3⟩:=b3 e;refine ⟨I,R,λd j' aa ae v u=>?_⟩;by_cases H:j'=j
      ·subst H;rcases hk with hk | hk
       ·exfalso;rw[<- I,Wa D]at d;injection d with d;exact hk d
       ·rw[<- I];exact hk v u
      ·exact e3 d j' aa Oo v u
     refine .atN A (.atN D (.ite (λL=>?_) λL=>.some (.inl ⟨b,rfl,G,T,x (.inl L),U⟩)));have L:b.1[i]=true:=L;have V:Rch g i:=G.snd i (by rw[Wa D,L]);refine .ite (λM=>?_) λM=>.some (.inl ⟨b,rfl,G,T,x (.inr λv u=>by
      have M:¬ 0<=g.nodes[i].refs[j]:=M
      omega),U⟩)
     have M:0<=g.nodes[i].refs[j]:=M;obtain ⟨w,ew⟩:∃ w:Nat,g.nodes[i].refs[j]=(w:Int):=⟨g.nodes[i].refs[j].toNat,Oo⟩;have N:Rch g w:=.edge V (Wa f) (ew▸Wd A);have E:w<b.1.length:=by rw[G.len];exact h.rlt N
     rw[ew];refine .atN E (.ite (λF=>.some (.inl ⟨b,rfl,G,T,x (.inr λv u=>?_),U⟩)) λF=>.some (.inl ⟨(b.1.set w true,true),by rw[Wc],G.set N,T.trans (.set _ _),λe=>(by cases e),λ_=>?_⟩))
     ·have F:b.1[w]=true:=F;have:v=w:=by omega
      rw[this,Wa E,F]
     ·have F:¬ b.1[w]=true:=F;have a:=mark_set E F;show c.count true<(b.1.set w true).count true;by_cases e:b.2=true
      ·have:=U e;omega
      ·rw[(b3 (by simpa using e)).1]at a ⊢;exact a
    ·obtain ⟨I,R,e3⟩:=z.2.2.1 e;by_cases ek:k=i
     ·subst ek;exact e3
     ·exact (Q R).2 k hk Oo
   ·obtain ⟨S,Y,Q,Z⟩:=m;refine ⟨⟨S,λi v a o=>Y v (y i v a o),λe k hk=>?_⟩,?_⟩
    ·obtain ⟨I,R⟩:=Q e;rw[I];exact R k hk hk
    ·show 2*(g.nodes.length-t.1.count true)+_<2*(g.nodes.length-c.count true)+_;have hc:t.1.count true<=g.nodes.length:=by rw[<- S.len];exact List.count_le_length
     by_cases e:t.2=true
     ·have:=Z e;simp only[e,if_true];omega
     ·rw[(Q (by simpa using e)).1];simp only[e,if_true];simp
  ·have n:O=false:=by simpa using n
   have W:=hb3 n;induction u with
   | root a o=>exact y _ _ a o
   | edge a o h3 ih =>obtain ⟨hl,e⟩:=Wm.1 o;subst e;obtain ⟨j,A,H⟩:=UL h3;exact W _ hl ih j A A _ H
 obtain ⟨p,y⟩:=B;have X:=p.len;have C:∀ (i:Nat) (f:i<r.length),r[i]=true<->Rch g i:=λi f=>⟨λk=>p.snd i (by rw[Wa f,k]),λk=>by
  have:=y i k
  rw[Wa f]at this
  injection this⟩
 refine Gd.bind (P:=λb=>b=rchL g) ?_ λb z=>.some z;refine Gd.for r.length (λ(t:List Int) i=>(t,i)) (λi t=>t.length<=i/\t=((List.range i).filter λv=>bP (Rch g v)).map λ(v:Nat)=>(v:Int)) [] rfl (λ_ _=>rfl) Oo ⟨Os,rfl⟩ (λi f t m=>?_) (λt m=>by rw[m.2,X];rfl);have ac:=m.1;rw[Ur,W4,WM,<- m.2];refine .atN f (.ite (λk=>.pos (Xd (l:=t) Oo Oo) (.some (.inl ⟨t++[(i:Int)],rfl,by rw[We,WI];omega,?_⟩))) λk=>.some (.inl ⟨t,rfl,Oo,?_⟩))
 ·have k:r[i]=true:=k;simp[VA,QbD ((C i f).1 k)]
 ·have k:¬ r[i]=true:=k;simp[VA,Qgo (λq=>k ((C i f).2 q))]
def nodW(nd:Nod):Int:=1+(nd.refs.length:Int)+(nd.data.length:Int)
def livW(g:Gra):Int:=((rchL g).map λv=>((g.nodes[v.toNat]?).map nodW).getD 0).sum
theorem live29_c{g:Gra}(h:GOk g):Qao g=some (livW g):=by
 have m:=h.n;have f:(rchL g).length<=g.nodes.length:=by unfold rchL;rw[Wb];have:=Vf (λv=>bP (Rch g v)) (List.range g.nodes.length);rw[WQ]at this;exact this
 have a:∀ i (d:i<(rchL g).length),∃ v:Nat,(rchL g)[i]=(v:Int)/\v<g.nodes.length:=λi d=>by have:=Wd d;obtain ⟨v,c,e⟩:=Wl.1 (show (rchL g)[i]∈((List.range g.nodes.length).filter λv=>bP (Rch g v)).map λ(v:Nat)=>(v:Int) from this);exact ⟨v,e.symm,WE.1 (WU.1 c).1⟩
 refine Gd.eq ?_;unfold Qao;refine Gd.bind (P:=λb=>b=livW g) ?_ λb l=>.some l;refine .call (reach_c h) ?_;refine Gd.fold (rchL g) (λ(t:Int) i=>(t,i)) (λt v=>t+((g.nodes[v.toNat]?).map nodW).getD 0) 0 (λi t=>0<=t/\t<=48*(i:Int)) rfl (λ_ _=>rfl) Oo ⟨Vs _,Oo⟩ (λi d t o=>?_) (λ_=>?_)
 ·obtain ⟨v,e,c⟩:=a i d;have j:=h.r _ (Wd c);rw[e,Wc,Wa c];have k:((some g.nodes[v]).map nodW).getD 0=1+(g.nodes[v].refs.length:Int)+(g.nodes[v].data.length:Int):=rfl;rw[k];refine ⟨⟨Oo,Oo⟩,.atN d ?_⟩;rw[e];refine .atN c (.some ?_);dsimp only;rw[Qd (n:=1+(g.nodes[v].refs.length:Int)) Oo,Qd (n:=1+(g.nodes[v].refs.length:Int)+(g.nodes[v].data.length:Int)) Oo,Qd (n:=t+_) Oo]
 ·show List.foldl _ 0 (rchL g)=livW g;unfold livW;rw[List.sum_eq_foldl,List.foldl_map]
theorem copy29_c{g:Gra}(h:GOk g):Qap g=some g:=by
 have f:=h.u;have j:=h.v;have k:=h.n;refine Gd.eq ?_;unfold Qap;refine .pos Oo (.pos Oo ?_);refine Gd.bind (P:=λb=>b=g.nodes) ?_ λb e=>.some (by rw[e]);refine Gd.for g.nodes.length (λ(t:List Nod) i=>(t,i)) (λi t=>t=g.nodes.take i) [] rfl (λ_ _=>rfl) Oo rfl (λi c t a=>?_) (λt a=>by rw[a,WN]);have d:=h.r _ (Wd c);have l:t.length<=i:=by rw[a,Wf];omega
 refine .atN c (.pos Oo (.pos Oo (.pos (show ((t.length:Int)+1)*48<=140737488355328/\(t.length:Int)+1<=9223372036854775807 by omega) (.some (.inl ⟨t++[g.nodes[i]],rfl,?_⟩)))));rw[a,Va c]
def frsG(g:Gra):Option Nat:=(List.range g.used.length).find? λi=>g.used[i]? == some false
def frsV:Option Nat->Int
 | some i=>((i+1:Nat):Int)
 | none=>0
theorem free29_c{g:Gra}(h:GOk g):Jr g=some (frsV (frsG g)):=by
 have l:=h.u;refine Gd.eq ?_;unfold Jr;refine Gd.bndR (P:=λz=>(z = .inl ()/\frsG g=none)\/(∃ i,z = .inr ((i+1:Nat):Int)/\frsG g=some i)) ?_ (λ_ a=>?_) (λr a=>?_)
 ·refine Gd.find g.used (λx=>x=false) Oo (λi b c=>?_) (λc=>.inl ⟨rfl,?_⟩)
  ·refine .atN b (.ite (λk=>.some (.inl ⟨by simp[show g.used[i]=true from k],rfl⟩)) λk=>?_);have k:¬ g.used[i]=true:=k;have d:g.used[i]=false:=by simpa using k
   refine .some (.inr ⟨d,_,rfl,.inr ⟨i,by rw[Qd Oo];rfl,?_⟩⟩);unfold frsG;rw[YM];refine ⟨by simp[Wa b,d],WE.2 b,λj f=>?_⟩;have:=c j Oo f;simp[Wa (show j<g.used.length by omega),this]
  ·unfold frsG;rw[Yg];intro i b;rw[WE]at b;have:=c _ (Wd b);simp[Wa b,this]
 ·rcases a with ⟨_,a⟩ | ⟨i,a,_⟩
  ·exact .some (by rw[a];rfl)
  ·cases a
 ·rcases a with ⟨a,_⟩ | ⟨i,a,e⟩
  ·cases a
  ·injection a with a;rw[e,a];rfl
theorem frsG_lt{g:Gra}(h:GOk g){i:Nat}(e:frsG g=some i):i<32:=by have:=WE.1 (Ug e);have:=h.u;omega
def Qf8(g:Gra)(a:Int)(b:Bool):Int:=if a=0 then(if b=true then 16 else 0) else if a<0\/32<a then 14 else if g.used[(a-1).toNat]?=some true then 0 else 14
theorem Qc4{g:Gra}(h:GOk g)(a:Int)(d:Bool):Zm g a d=some (Qf8 g a d):=by
 have e:=h.u;refine Gd.eq ?_;unfold Zm Qf8;refine .ite (λb=>?_) λb=>?_
 ·rw[if_pos b];exact .ite (λk=>.some (by rw[if_pos k])) λk=>.some (by rw[if_neg k])
 ·rw[if_neg b];refine .ite (λk=>.some (by rw[if_pos (.inl k)])) λf=>.ite (λk=>.some (by rw[if_pos (.inr k)])) λj=>?_;rw[if_neg Oo,Qd Oo];obtain ⟨i,rfl⟩:∃ i:Nat,a=((i+1:Nat):Int):=⟨(a-1).toNat,Oo⟩;have c:i<g.used.length:=by omega
  rw[show ((i+1:Nat):Int)-1=(i:Int) by omega,Wc,Wa c];refine .atN c (.ite (λk=>.some (by rw[if_pos (by rw[show g.used[i]=true from k])])) λk=>.some (by rw[if_neg (by simpa using k)]))
theorem hdlG_0{g:Gra}{a:Int}{b:Bool}(h:Qf8 g a b=0):(a=0/\b=false)\/∃ i:Nat,a=((i+1:Nat):Int)/\i<32/\g.used[i]?=some true:=by
 unfold Qf8 at h;split at h
 ·rename_i e;split at h
  ·cases h
  ·rename_i k;exact .inl ⟨e,by simpa using k⟩
 ·split at h
  ·cases h
  ·split at h
   ·rename_i k;exact .inr ⟨(a-1).toNat,Oo,Oo,k⟩
   ·cases h
def nodE(g:Gra)(a:Int):Int:=if a=0 then -1 else(g.roots[(a-1).toNat]?).getD 0
theorem Qc3{g:Gra}(h:GOk g){a:Int}(e:0<=a/\a<=32):Zl g a=some (nodE g a):=by
 have d:=h.v;refine Gd.eq ?_;unfold Zl nodE;refine .ite (λb=>.some (by rw[if_pos b])) λb=>?_;rw[if_neg b,Qd Oo];obtain ⟨i,rfl⟩:∃ i:Nat,a=((i+1:Nat):Int):=⟨(a-1).toNat,Oo⟩;have c:i<g.roots.length:=by omega
 rw[show ((i+1:Nat):Int)-1=(i:Int) by omega,Wc];refine .atN c (.some ?_);rw[Wa c];rfl
theorem nodE_i{g:Gra}(h:GOk g){i:Nat}(b:g.used[i]?=some true):∃ k:Nat,nodE g ((i+1:Nat):Int)=(k:Int)/\k<g.nodes.length:=by obtain ⟨k,e,a⟩:=h.t i b;refine ⟨k,?_,a⟩;unfold nodE;rw[if_neg Oo,show ((i+1:Nat):Int)-1=(i:Int) by omega,Wc,e];rfl
theorem Qfl{g:Gra}(h:GOk g){a:Int}(c:Qf8 g a false=0):(nodE g a = -1\/(0<=nodE g a/\nodE g a<g.nodes.length))/\0<=a/\a<=32:=by
 rcases hdlG_0 c with ⟨rfl,_⟩ | ⟨i,rfl,f,b⟩
 ·exact ⟨.inl (by unfold nodE;rw[if_pos rfl]),Oo,Oo⟩
 ·obtain ⟨k,e,d⟩:=nodE_i h b;exact ⟨.inr (by rw[e];omega),Oo,Oo⟩
def rotG(g:Gra)(v:Int):Option Nat->Gra×Ans
 | none=>(g,⟨15,0⟩)
 | some i=>(⟨g.nodes,g.used.set i true,g.roots.set i v⟩,⟨0,((i+1:Nat):Int)⟩)
def newG(g:Gra)(a b:Int):Option Nat->Gra×Ans
 | none=>(g,⟨15,0⟩)
 | some i=>(⟨g.nodes++[⟨List.replicate a.toNat (-1),List.replicate b.toNat 0⟩],g.used.set i true,g.roots.set i (g.nodes.length:Int)⟩,⟨0,((i+1:Nat):Int)⟩)
def nodG(g:Gra)(o:AOp)(n:Nat)(nd:Nod):Gra×Ans := if o.code=7 then(⟨g.nodes,g.used.set (o.a-1).toNat false,g.roots.set (o.a-1).toNat (-1)⟩,⟨0,0⟩) else if o.code=9 then(g,⟨0,wu (256*(nd.refs.length:Int)+(nd.data.length:Int))⟩) else if o.b<0\/(if o.code=2\/o.code=3 then(nd.refs.length:Int) else(nd.data.length:Int))<=o.b then(g,⟨17,0⟩) else if o.code=4 then(g,⟨0,(nd.data[o.b.toNat]?).getD 0⟩) else if o.code=5 then(⟨g.nodes.set n ⟨nd.refs,nd.data.set o.b.toNat (wu o.c_)⟩,g.used,g.roots⟩,⟨0,0⟩) else if o.code=3 then(if Qf8 g o.c_ false=0 then(⟨g.nodes.set n ⟨nd.refs.set o.b.toNat (nodE g o.c_),nd.data⟩,g.used,g.roots⟩,⟨0,0⟩) else(g,⟨Qf8 g o.c_ false,0⟩)) else if (nd.refs[o.b.toNat]?).getD 0 = -1 then(g,⟨0,0⟩) else rotG g ((nd.refs[o.b.toNat]?).getD 0) (frsG g)
def doG(g:Gra)(o:AOp):Gra×Ans := if o.code=1 then(if o.a<0\/15<o.a\/o.b<0\/32<o.b then(g,⟨13,0⟩) else newG g o.a o.b (frsG g)) else if o.code=8 then(g,⟨0,0⟩) else if o.code=10 then(g,⟨0,wu (livW g)⟩) else if o.code=6 then(if Qf8 g o.a false=0 then(if Qf8 g o.b false=0 then(g,⟨0,if nodE g o.a=nodE g o.b then 1 else 0⟩) else(g,⟨Qf8 g o.b false,0⟩)) else(g,⟨Qf8 g o.a false,0⟩)) else if o.code=7\/o.code=9\/o.code=2\/o.code=3\/o.code=4\/o.code=5 then(if Qf8 g o.a true=0 then nodG g o (nodE g o.a).toNat ((g.nodes[(nodE g o.a).toNat]?).getD ⟨[],[]⟩) else(g,⟨Qf8 g o.a true,0⟩)) else(g,⟨20,0⟩)
set_option maxHeartbeats 1000000 in
theorem do29_c{g:Gra}(h:GOk g)(o:AOp):QbI g o=some (doG g o):=by
  have Q:=h.u;have R:=h.v;have S:=h.n;have a:∀ e,Qw g e=some (g,⟨e,0⟩):=λ_=>rfl;refine Gd.eq ?_;unfold QbI doG;refine .call (copy29_c h) ?_;refine Gd.bndR (P:=λz=>(z = .inl ()/\(o.code=7\/o.code=9\/o.code=2\/o.code=3\/o.code=4\/o.code=5))\/z = .inr (doG g o)) ?_ (λ_ hP=>?_) (λr hP=>?_)
  · refine .ite (λp=>?_) λp=>?_
    · have p:o.code=1:=p
      have c:doG g o=if o.a<0\/15<o.a\/o.b<0\/32<o.b then(g,⟨13,0⟩)
        else newG g o.a o.b (frsG g):=by
        unfold doG;rw[if_pos p]
      refine .ite (λk=>.call (a 13) (.some (.inr (by rw[c,if_pos (.inl k)])))) λU=>?_
      refine .ite (λk=>.call (a 13) (.some (.inr (by rw[c,if_pos (.inr (.inl k))])))) λF=>?_
      refine .ite (λk=>.call (a 13) (.some (.inr (by rw[c,if_pos (.inr (.inr (.inl k)))])))) λD=>?_
      refine .ite (λk=>.call (a 13) (.some (.inr (by rw[c,if_pos (.inr (.inr (.inr k)))])))) λV=>?_
      rw[if_neg Oo]at c
      refine .call (free29_c h) ?_
      cases e:frsG g with
      | none =>
        rw[e]at c
        exact .pos rfl (.call (a 15) (.some (.inr (by rw[c];rfl))))
      | some i =>
        rw[e]at c
        have K:=frsG_lt h e
        have H:frsV (some i)=((i+1:Nat):Int):=rfl
        rw[H]
        refine .neg (by show ¬ ((i+1:Nat):Int)=0;omega) (.pos Oo ?_)
        refine Gd.bind (P:=λb:List Int=>b=List.replicate o.a.toNat (-1)) ?_ λb q=>?_
        · obtain ⟨n,C⟩:∃ n:Nat,o.a=(n:Int):=⟨o.a.toNat,Oo⟩
          rw[C,Wc]
          refine Gd.for n (λ(t:List Int) i=>(t,i)) (λi t=>t=List.replicate i (-1)) [] rfl (λ_ _=>rfl) Oo rfl (λj O t G=>?_) (λt G=>by rw[G])
          have T:t.length=j:=by rw[G,W0]
          refine .pos (Xd (l:=t) Oo Oo) (.some (.inl ⟨t++[-1],rfl,?_⟩))
          rw[G,Yu]
        · subst q
          refine .pos Oo ?_
          rw[Qd Oo,show ((i+1:Nat):Int)-1=(i:Int) by omega]
          refine .atN Oo (.atN Oo (.some (.inr ?_)))
          rw[c]
          unfold newG
          dsimp only
          rw[We,WI,Qd Oo,Wc,Z5 (n:=((i+1:Nat):Int)) Oo,show ((g.nodes.length+1:Nat):Int)-1=(g.nodes.length:Int) by omega]
    have p:¬ o.code=1:=p
    refine .ite (λE=>.some (.inr (by unfold doG;rw[if_neg p,if_pos E]))) λE=>?_
    refine .ite (λw=>.call (live29_c h) (.some (.inr (by unfold doG;rw[if_neg p,if_neg E,if_pos w])))) λw=>?_
    refine .ite (λI=>?_) λI=>?_
    · have c:doG g o=if Qf8 g o.a false=0 then
          (if Qf8 g o.b false=0 then(g,⟨0,if nodE g o.a=nodE g o.b then 1 else 0⟩) else(g,⟨Qf8 g o.b false,0⟩))
         else(g,⟨Qf8 g o.a false,0⟩):=by unfold doG;rw[if_neg p,if_neg E,if_neg w,if_pos I]
      refine .call (Qc4 h _ _) (.ite (λd=>?_) λd=>.call (a _) (.some (.inr (by rw[c,if_neg d]))))
      have d:Qf8 g o.a false=0:=d
      rw[if_pos d]at c
      refine .call (Qc4 h _ _) (.ite (λq=>?_) λq=>.call (a _) (.some (.inr (by rw[c,if_neg q]))))
      have q:Qf8 g o.b false=0:=q
      rw[if_pos q]at c
      refine .call (Qc3 h (Qfl h d).2) (.call (Qc3 h (Qfl h q).2) ?_)
      exact .ite (λk=>.some (.inr (by rw[c,if_pos k]))) λk=>.some (.inr (by rw[c,if_neg k]))
    refine .ite (λk=>.some (.inl ⟨rfl,.inl k⟩)) λA=>.ite (λk=>.some (.inl ⟨rfl,.inr (.inl k)⟩)) λB=>.ite (λk=>.some (.inl ⟨rfl,.inr (.inr (.inl k))⟩)) λJ=>.ite (λk=>.some (.inl ⟨rfl,.inr (.inr (.inr (.inl k)))⟩)) λv=>.ite (λk=>.some (.inl ⟨rfl,.inr (.inr (.inr (.inr (.inl k))))⟩)) λs=>.ite (λk=>.some (.inl ⟨rfl,.inr (.inr (.inr (.inr (.inr k))))⟩)) λu=>.call (a 20) (.some (.inr ?_))
    unfold doG
    rw[if_neg p,if_neg E,if_neg w,if_neg I,if_neg]
    rintro (k | k | k | k | k | k)
    · exact A k
    · exact B k
    · exact J k
    · exact v k
    · exact s k
    · exact u k
  · rcases hP with ⟨_,y⟩ | hP
    · have c:doG g o=if Qf8 g o.a true=0 then nodG g o (nodE g o.a).toNat ((g.nodes[(nodE g o.a).toNat]?).getD ⟨[],[]⟩) else(g,⟨Qf8 g o.a true,0⟩):=by
        unfold doG
        rw[if_neg Oo,if_neg Oo,if_neg Oo,if_neg Oo,if_pos y]
      show Gd (λx=>x=doG g o) _
      rw[c]
      refine .call (Qc4 h _ _) (.ite (λd=>?_) λd=>.call (a _) (.some (by rw[if_neg d])))
      have d:Qf8 g o.a true=0:=d
      rw[if_pos d]
      obtain ⟨i,ei,K,hui⟩:∃ i:Nat,o.a=((i+1:Nat):Int)/\i<32/\g.used[i]?=some true:=by
        rcases hdlG_0 d with ⟨_,k⟩ | k
        · cases k
        · exact k
      obtain ⟨n,C,f⟩:=nodE_i h hui
      rw[<- ei]at C
      have L:=h.r _ (Wd f)
      refine .call (Qc3 h Oo) ?_
      rw[C,Wc,Wa f]
      refine .atN f ?_
      have M:o.a-1=(i:Int):=by omega
      unfold nodG
      refine .ite (λA=>?_) λA=>?_
      · rw[if_pos A,M,Qd Oo,Wc]
        exact .atN Oo (.atN Oo (.some rfl))
      have A:¬ o.code=7:=A
      rw[if_neg A]
      refine .ite (λB=>?_) λB=>?_
      · rw[if_pos B]
        refine .some ?_
        dsimp only[Option.getD_some]
        rw[Qd (n:=256*_) Oo,Qd (n:=256*(g.nodes[n].refs.length:Int)+_) Oo]
      have B:¬ o.code=9:=B
      rw[if_neg B]
      dsimp only[Option.getD_some]
      refine Gd.bind (P:=λb=>b=if o.code=2\/o.code=3 then(g.nodes[n].refs.length:Int) else(g.nodes[n].data.length:Int)) ?_ λb q=>?_
      · refine .ite (λk=>.some (by rw[if_pos (.inl k)])) λJ=>.ite (λk=>.some (by rw[if_pos (.inr k)])) λv=>.some (by rw[if_neg];rintro (k | k);exact J k;exact v k)
      subst q
      refine .ite (λk=>.call (a 17) (.some (by rw[if_pos (.inl k)]))) λF=>.ite (λk=>.call (a 17) (.some (by rw[if_pos (.inr k)]))) λD=>?_
      have F:¬ o.b<0:=F
      rw[if_neg (by rintro (k | k);exact F k;exact D k)]
      obtain ⟨m,em2⟩:∃ m:Nat,o.b=(m:Int):=⟨o.b.toNat,Oo⟩
      rw[em2,Wc]
      rw[em2]at D
      refine .ite (λs=>?_) λs=>?_
      · have s:o.code=4:=s
        rw[if_neg Oo]at D
        rw[if_pos s]
        refine .atN Oo (.some ?_)
        rw[Wa Oo];rfl
      have s:¬ o.code=4:=s
      rw[if_neg s]
      refine .ite (λu=>?_) λu=>?_
      · have u:o.code=5:=u
        rw[if_neg Oo]at D
        rw[if_pos u]
        refine .call (Qc3 h Oo) ?_
        rw[C]
        exact .atN f (.atN Oo (.some rfl))
      have u:¬ o.code=5:=u
      rw[if_neg u]
      rw[if_pos Oo]at D
      refine .ite (λv=>?_) λv=>?_
      · rw[if_pos v]
        refine .call (Qc4 h _ _) (.ite (λy=>?_) λy=>.call (a _) (.some (by rw[if_neg y])))
        have y:Qf8 g o.c_ false=0:=y
        rw[if_pos y]
        refine .call (Qc3 h Oo) ?_
        rw[C]
        refine .atN f (.call (Qc3 h (Qfl h y).2) (.atN Oo (.some rfl)))
      have v:¬ o.code=3:=v
      rw[if_neg v]
      refine .atN Oo ?_
      have N:m<g.nodes[n].refs.length:=by omega
      simp only[Wa N,WF]
      refine .ite (λk=>.some (by rw[if_pos k])) λk=>?_
      rw[if_neg k]
      refine .call (free29_c h) ?_
      cases e:frsG g with
      | none=>exact .pos rfl (.call (a 15) (.some rfl))
      | some j =>
        have O:=frsG_lt h e
        have H:frsV (some j)=((j+1:Nat):Int):=rfl
        rw[H]
        refine .neg (by show ¬ ((j+1:Nat):Int)=0;omega) ?_
        rw[Qd Oo,show ((j+1:Nat):Int)-1=(j:Int) by omega]
        refine .atN Oo (.atN Oo (.some ?_))
        unfold rotG
        dsimp only
        rw[Wc,Z5 (n:=((j+1:Nat):Int)) Oo]
    · cases hP
  · rcases hP with ⟨hP,_⟩ | hP
    · cases hP
    · injection hP with hP
theorem GOk.rot{g:Gra}(h:GOk g){i:Nat}(d:i<32){v:Int}(f:0<=v/\v<g.nodes.length):GOk ⟨g.nodes,g.used.set i true,g.roots.set i v⟩:=by
 have b:=h.u;have c:=h.v;refine ⟨by show (g.used.set i true).length=32;rw[Wy];exact b,by show (g.roots.set i v).length=32;rw[Wy];exact c,h.n,λj a=>?_,h.r⟩;have a:(g.used.set i true)[j]?=some true:=a;show ∃ k:Nat,(g.roots.set i v)[j]?=some (k:Int)/\k<g.nodes.length;by_cases e:i=j
 ·subst e;exact ⟨v.toNat,by rw[WL Oo];congr 1;omega,Oo⟩
 ·rw[WJ e]at a ⊢;exact h.t j a
theorem GOk.node{g:Gra}(h:GOk g){n:Nat}{nd:Nod}(a:nd.refs.length<=15/\nd.data.length<=32/\(∀ v∈nd.refs,v = -1\/(0<=v/\v<g.nodes.length))/\∀ x∈nd.data,U64 x):GOk ⟨g.nodes.set n nd,g.used,g.roots⟩:=by
 refine ⟨h.u,h.v,by show (g.nodes.set n nd).length<=_;rw[Wy];exact h.n,λj b=>?_,λx c=>?_⟩
 ·show ∃ k:Nat,g.roots[j]?=some (k:Int)/\k<(g.nodes.set n nd).length;rw[Wy];exact h.t j b
 ·show x.refs.length<=15/\x.data.length<=32/\(∀ v∈x.refs,v = -1\/(0<=v/\v<(g.nodes.set n nd).length))/\_;rw[Wy];rcases W2 c with k | k
  ·exact h.r x k
  ·rw[k];exact a
theorem GOk.drop{g:Gra}(h:GOk g)(i:Nat):GOk ⟨g.nodes,g.used.set i false,g.roots.set i (-1)⟩:=by
 have b:=h.u;have c:=h.v;refine ⟨by show (g.used.set i false).length=32;rw[Wy];exact b,by show (g.roots.set i (-1)).length=32;rw[Wy];exact c,h.n,λj a=>?_,h.r⟩;have a:(g.used.set i false)[j]?=some true:=a;show ∃ k:Nat,(g.roots.set i (-1))[j]?=some (k:Int)/\k<g.nodes.length;by_cases e:i=j
 ·subst e;rw[Uo]at a;simp at a
 ·rw[WJ e]at a ⊢;exact h.t j a
theorem GOk.more{g:Gra}(h:GOk g)(o:g.nodes.length<1000000){nd:Nod}(d:nd.refs.length<=15/\nd.data.length<=32/\(∀ v∈nd.refs,v = -1)/\∀ x∈nd.data,U64 x):GOk ⟨g.nodes++[nd],g.used,g.roots⟩:=by
 have i:(g.nodes++[nd]).length=g.nodes.length+1:=by rw[We,WI]
 refine ⟨h.u,h.v,by show (g.nodes++[nd]).length<=_;omega,λj l=>?_,λx m=>?_⟩
 ·obtain ⟨k,e,n⟩:=h.t j l;exact ⟨k,e,by show k<(g.nodes++[nd]).length;omega⟩
 ·show x.refs.length<=15/\x.data.length<=32/\(∀ v∈x.refs,v = -1\/(0<=v/\v<((g.nodes++[nd]).length:Int)))/\_;rw[i];rcases Wk.1 m with k | k
  ·obtain ⟨a,b,c,e⟩:=h.r x k;exact ⟨a,b,λv f=>(c v f).imp id λq=>by omega,e⟩
  ·rw[Wo.1 k];exact ⟨d.1,d.2.1,λv f=>.inl (d.2.2.1 v f),d.2.2.2⟩
theorem rotG_ok{g:Gra}(h:GOk g){v:Int}(a:0<=v/\v<g.nodes.length):GOk (rotG g v (frsG g)).1/\(rotG g v (frsG g)).1.nodes=g.nodes:=by
 cases e:frsG g with
 | none=>exact ⟨h,rfl⟩
 | some i=>exact ⟨h.rot (frsG_lt h e) a,rfl⟩
theorem newG_ok{g:Gra}(h:GOk g)(l:g.nodes.length<1000000){a b:Int}(k:a<=15/\b<=32):GOk (newG g a b (frsG g)).1/\(newG g a b (frsG g)).1.nodes.length<=g.nodes.length+1:=by
 cases e:frsG g with
 | none=>exact ⟨h,by show g.nodes.length<=_;omega⟩
 | some i =>
  have d:=h.more l (nd:=⟨List.replicate a.toNat (-1),List.replicate b.toNat 0⟩) ⟨by rw[W0];omega,by rw[W0];omega,λv f=>(UT.1 f).2,λx j=>by rw[(UT.1 j).2];unfold U64;omega⟩;have c:(g.nodes++[(⟨List.replicate a.toNat (-1),List.replicate b.toNat 0⟩:Nod)]).length=g.nodes.length+1:=by rw[We,WI]
  exact ⟨d.rot (frsG_lt h e) (v:=(g.nodes.length:Int)) ⟨Oo,by show (g.nodes.length:Int)<((g.nodes++[_]).length:Int);rw[c];omega⟩,by show (g.nodes++[_]).length<=_;rw[c];omega⟩
theorem doG_ok{g:Gra}(h:GOk g)(p:g.nodes.length<1000000)(o:AOp):GOk (doG g o).1/\(doG g o).1.nodes.length<=g.nodes.length+1:=by
 have a:GOk g/\g.nodes.length<=g.nodes.length+1:=⟨h,Oo⟩;unfold doG;split
 ·split
  ·exact a
  ·rename_i k;exact newG_ok h p ⟨Oo,Oo⟩
 split
 ·exact a
 split
 ·exact a
 split
 ·split
  ·split <;> exact a
  ·exact a
 split
 ·split
  ·rename_i ha;obtain ⟨i,ei,hi,hui⟩:∃ i:Nat,o.a=((i+1:Nat):Int)/\i<32/\g.used[i]?=some true:=by
    rcases hdlG_0 ha with ⟨_,k⟩ | k
    ·cases k
    ·exact k
   obtain ⟨n,j,c⟩:=nodE_i h hui;rw[<- ei]at j;have b:=h.r _ (Wd c);rw[j,Wc,Wa c];dsimp only[Option.getD_some];unfold nodG;split
   ·exact ⟨h.drop _,by show g.nodes.length<=_;omega⟩
   split
   ·exact a
   by_cases d:o.b<0\/(if o.code=2\/o.code=3 then(g.nodes[n].refs.length:Int) else(g.nodes[n].data.length:Int))<=o.b
   ·rw[if_pos d];exact a
   rw[if_neg d];split
   ·exact a
   split
   ·refine ⟨h.node ⟨b.1,by show (g.nodes[n].data.set _ _).length<=32;rw[Wy];exact b.2.1,b.2.2.1,λx e=>?_⟩,by show (g.nodes.set _ _).length<=_;rw[Wy];omega⟩;rcases W2 e with k | k
    ·exact b.2.2.2 x k
    ·rw[k];exact wu_u _
   split
   ·split
    ·rename_i hc;refine ⟨h.node ⟨by show (g.nodes[n].refs.set _ _).length<=15;rw[Wy];exact b.1,b.2.1,λx e=>?_,b.2.2.2⟩,by show (g.nodes.set _ _).length<=_;rw[Wy];omega⟩;rcases W2 e with k | k
     ·exact b.2.2.1 x k
     ·rw[k];exact (Qfl h hc).1
    ·exact a
   ·split
    ·exact a
    ·rename_i k7 k9 k4 k5 k3 hv;have f:o.b.toNat<g.nodes[n].refs.length:=by rename_i hcode;rw[if_pos Oo]at d;omega
     rw[Wa f]at hv ⊢;dsimp only[Option.getD_some]at hv ⊢;have:=b.2.2.1 _ (Wd f);obtain ⟨l,m⟩:=rotG_ok h (this.resolve_left hv);exact ⟨l,by rw[m];omega⟩
  ·exact a
 ·exact a
theorem new29_c:∃ g,QaZ=some g/\GOk g/\g.nodes=[]/\∀ i:Nat,¬ g.used[i]?=some true:=by
 refine ⟨⟨[],List.replicate 32 false,List.replicate 32 (-1)⟩,Gd.eq ?_,?_,rfl,λi a=>?_⟩
 ·unfold QaZ;refine .pos Oo (.pos Oo ?_);refine Gd.bind (P:=λb=>b=List.replicate 32 (-1)) ?_ λb h=>.some (by rw[h];rfl);have e:(List.replicate (Int.toNat 32) (0:Int)).length=32:=by simp
  rw[e];refine Gd.for 32 (λ(t:List Int) i=>(t,i)) (λi t=>t=List.replicate i (-1)++List.replicate (32-i) 0) (List.replicate 32 0) rfl (λ_ _=>rfl) Oo Os (λi a t c=>?_) (λt c=>by rw[c];rfl);have f:t.length=32:=by rw[c,We,W0,W0];omega
  refine .atN (show i<t.length by omega) (.some (.inl ⟨t.set i (-1),by rw[Wc],?_⟩));rw[c,Yo _ _ (by rw[W0];exact Wn _),W0,VV,show 32-i=(31-i)+1 by omega,U8,List.set_cons_zero,Yu,WH,show 32-(i+1)=31-i by omega];rfl
 ·refine ⟨Os,Os,Os,λi a=>?_,λj d=>by cases d⟩;have a:(List.replicate 32 false)[i]?=some true:=a;rw[V9]at a;split at a <;> cases a
 ·have a:(List.replicate 32 false)[i]?=some true:=a;rw[V9]at a;split at a <;> cases a
theorem Q9{d:Qb}(h:Xy d){n:Int}(g:1<=n/\n<=9223372036854775807):Gd (λr=>(0<=r.1/\r.1<n)/\Xy r.2) (Qc d n):=by obtain ⟨v,a,e,b,c,f⟩:=next_spec h g;exact ⟨(v,a),e,⟨b,c⟩,f⟩
theorem op1_g{d:Qb}(h:Xy d){c:List Int}(i:∀ x∈c,0<=x/\x<=64)(j:c.length<=64):Gd (λr=>(0<=r.1/\r.1<=64)/\r.2.1=c/\r.2.2.1=c/\Xy r.2.2.2) (Zh c d):=by
 unfold Zh;refine .ite (λk=>?_) λk=>?_
 ·refine .bind (Q9 h Oo) λr b=>.some ⟨Oo,rfl,rfl,b.2⟩
 ·refine .bind (Q9 h Oo) λr b=>.ite (λf=>?_) λf=>?_
  ·refine .bind (Q9 b.2 Oo) λg a=>.some ⟨Oo,rfl,rfl,a.2⟩
  ·refine .bind (Q9 b.2 Oo) λg a=>?_;have e:=a.1;refine .at e.1 Oo (.some ⟨i _ (Wd _),rfl,rfl,a.2⟩)
theorem op_g{d:Qb}(h:Xy d){g:Gra}(O:GOk g):Gd (λr=>OpI r.1/\Xy r.2) (QcV d g):=by
 have Q:=O.u;unfold QcV;refine Gd.bind (P:=λb:List Int=>(∀ x∈b,0<=x/\x<=64)/\b.length<=64) ?_ λc n=>?_
 ·refine Gd.for g.used.length (λ(t:List Int) i=>(t,i)) (λi t=>t.length<=i/\∀ x∈t,0<=x/\x<=64) [] rfl (λ_ _=>rfl) Oo ⟨Os,λx D=>by cases D⟩ (λi J t u=>?_) (λt u=>⟨u.2,by have:=u.1;show t.length<=64;omega⟩);have I:=u.1;refine .atN J (.ite (λk=>.pos (Xd (l:=t) Oo Oo) (.some (.inl ⟨t++[w64 ((i:Int)+1)],rfl,by rw[We,WI];omega,λx D=>?_⟩))) λk=>.some (.inl ⟨t,rfl,Oo,u.2⟩));rcases Wk.1 D with q | q
  ·exact u.2 x q
  ·rw[Wo.1 q,Qd Oo];omega
 refine .bind (Q9 h Oo) λK f=>?_;have B:=f.1;refine .at B.1 (by simp only[W7,VU];omega) ?_;refine Gd.bind (P:=λ_=>True) ?_ λL _=>?_
 ·exact .ite (λ_=>.ite (λ_=>.some trivial) λ_=>.some trivial) λ_=>.some trivial
 refine .ite (λ_=>?_) λ_=>?_
 ·refine .bind (Q9 f.2 Oo) λM E=>.bind (Q9 E.2 Oo) λw z=>?_;have C:=z.1;refine Gd.bind (P:=λv=>1<=v/\v<=17) ?_ λv R=>?_
  ·have G:w.1.toNat<([3,3,8,17]:List Int).length:=by simp only[W7,VU];omega
   have e:=at_int (l:=([3,3,8,17]:List Int)) C.1 G;refine ⟨_,e,?_⟩;have H:=Wd G;generalize ([3,3,8,17]:List Int)[w.1.toNat]=y at H;simp only[Ww,W3,or_false]at H;omega
  ·refine .bind (Q9 z.2 Oo) λF A=>.some ⟨⟨?_⟩,A.2⟩;have:=A.1;show I64 F.1;unfold I64;omega
 refine Gd.bind (P:=λ_=>True) ?_ λN _=>?_
 ·exact .ite (λ_=>.some trivial) λ_=>.some trivial
 refine .ite (λ_=>?_) λ_=>.ite (λ_=>?_) λ_=>.ite (λ_=>?_) λ_=>.ite (λ_=>?_) λ_=>.ite (λ_=>?_) λ_=>.ite (λ_=>?_) λ_=>.some ⟨⟨by show I64 0;unfold I64;omega⟩,f.2⟩
 ·refine .bind (op1_g f.2 n.1 n.2) λo a=>.pos (by rw[a.2.2.1]) (.bind (Q9 a.2.2.2 Oo) λp j=>.some ⟨⟨?_⟩,j.2⟩);have:=j.1;show I64 p.1;unfold I64;omega
 ·refine .bind (op1_g f.2 n.1 n.2) λo a=>.pos (by rw[a.2.2.1]) (.bind (Q9 a.2.2.2 Oo) λp j=>?_);rw[a.2.2.1];refine .bind (op1_g j.2 n.1 n.2) λs m=>.pos (by rw[m.2.2.1]) (.some ⟨⟨?_⟩,m.2.2.2⟩);have:=j.1;show I64 p.1;unfold I64;omega
 ·refine .bind (op1_g f.2 n.1 n.2) λo a=>.pos (by rw[a.2.2.1]) (.bind (Q9 a.2.2.2 Oo) λp j=>.bind (Q9 j.2 Oo) λs m=>.some ⟨⟨?_⟩,m.2⟩);have:=j.1;show I64 p.1;unfold I64;omega
 ·refine .bind (op1_g f.2 n.1 n.2) λo a=>.pos (by rw[a.2.2.1]) ?_;rw[a.2.2.1];refine .bind (op1_g a.2.2.2 n.1 n.2) λs m=>.pos (by rw[m.2.2.1]) (.some ⟨⟨?_⟩,m.2.2.2⟩);have:=m.1;show I64 s.1;unfold I64;omega
 ·refine .bind (op1_g f.2 n.1 n.2) λo a=>.pos (by rw[a.2.2.1]) (.some ⟨⟨by show I64 0;unfold I64;omega⟩,a.2.2.2⟩)
 ·refine .bind (op1_g f.2 n.1 n.2) λo a=>.pos (by rw[a.2.2.1]) (.some ⟨⟨by show I64 0;unfold I64;omega⟩,a.2.2.2⟩)
def newH(c:Cfg)(k:Int)(n:Nat):Hp:=⟨c,newS k n,List.replicate c.rules.length [],0,[],⟨List.replicate 32 false,List.replicate 32 0⟩,0,⟨0,0,0,0,0,0,0,0,0⟩,false⟩
theorem flat_nil{α:Type}(n:Nat):(List.replicate n ([]:List α)).flatten=[]:=by rw[List.flatten_eq_nil_iff];exact λl a=>(UT.1 a).2
theorem newH_inv{c:Cfg}(p:Qee c){k:Int}{n:Nat}(r:QcH k)(s:2<=n/\n<=64):QN (newH c k n) (List.replicate c.rules.length []):=by
 have l:=flat_nil (α:=Itm) c.rules.length;have d:=new_inv r s;have g:∀ x,x∉(List.replicate c.rules.length ([]:List Itm)).flatten:=λx a=>by rw[l]at a;cases a
 have j:∀ q,¬ QaB (szS (newS k n)) (List.replicate c.rules.length ([]:List Itm)).flatten q:=λq e=>by rw[l]at e;obtain ⟨x,a,_⟩:=e;cases a
 refine ⟨p,?_,by rw[W0];rfl,by rw[l];exact d,λx a=>(g x a).elim,λb u x a=>?_,λq e=>by rw[(UT.1 e).2];exact YK,λx a=>(g x a).elim,Vs _,⟨by simp[newH],by simp[newH],λi h m _=>?_,λx a=>by rw[(UT.1 a).2];unfold U64;omega⟩,λi d=>?_,λq e=>absurd e (j q),⟨λx a=>(by cases a),λi h=>absurd h (WZ _)⟩,λx a=>(by cases a),λf t q e=>?_,λq e=>absurd e (j q),λ_=>?_⟩
 ·show List.replicate c.rules.length []=_;rw[UR];rfl
 ·rw[Yk]at a;cases a
 ·have m:i<(List.replicate 32 (0:Int)).length:=m;show (List.replicate 32 (0:Int))[i]=0;rw[Yk]
 ·rw[Z8]at d;have d:(List.replicate 32 false)[i]?=some true:=d;rw[V9]at d;split at d <;> cases d
 ·obtain ⟨y,o,_⟩:=e;cases o
 ·have:Qk (newS k n).fs=List.range (newS k n).fs.length:=by unfold Qk;rw[VI];intro i d;rw[WE]at d;rw[Qb5 d];simp[newS,feF]
  show 2*((newS k n).fs.length-(Qk (newS k n).fs).length)<=_;rw[this,WQ];omega
theorem new27_c{c:Cfg}(a:Qee c){k n:Int}(d:QcH k)(e:2<=n/\n<=64):Qa0 c k n=some (newH c k n.toNat,0):=by
 have f:=a.len;refine Gd.eq ?_;unfold Qa0;refine .call (check_c a) (.pos rfl (.call (new_spec d e) (.pos rfl (.pos Oo (.pos Oo ?_)))));have b:Qa1=some ⟨List.replicate 32 false,List.replicate 32 0⟩:=by unfold Qa1;rw[if_pos Oo,if_pos Oo];rfl
 refine .call b (.some ?_);unfold newH;rw[Wc]
structure MadeOk(c:Cfg)(r:Hp×Gra×Qb):Prop where
 inv:∃ BL,QN r.1 BL
 cfg:r.1.config=c
 ded:r.1.dead=false
 seq:r.1.seq<=20000
 gra:GOk r.2.1
 nod:r.2.1.nodes.length<=60
 dck:Xy r.2.2
theorem heapOf_g{c:Cfg}(w:Qee c){d:Qb}(E:Xy d):Gd (MadeOk c) (J1 d c):=by
 unfold J1;refine Gd.bind (P:=λr=>(3<=r.1/\r.1<=4)/\(6<=r.2.1/\r.2.1<=20)/\Xy r.2.2) ?_ λr B=>?_
 ·unfold Qbo;refine .bind (Q9 E Oo) λp q=>.bind (Q9 q.2 Oo) λt u=>.some ?_;have F:=q.1;have G:=u.1;refine ⟨?_,?_,u.2⟩
  ·show 3<=w64 (3+p.1)/\w64 (3+p.1)<=4;rw[Qd Oo];omega
  ·show 6<=w64 (6+t.1)/\w64 (6+t.1)<=20;rw[Qd Oo];omega
 have m:QcH r.1:=by unfold QcH;omega
 refine .call (new27_c w m Oo) ?_;obtain ⟨K,x,k,y,_⟩:=new29_c;refine .call x ?_;refine Gd.bind (P:=λb:Qb×Hp×Gra=>MadeOk c (b.2.1,b.2.2,b.1)) ?_ λb C=>.some C;refine .bind (Q9 B.2.2 Oo) λM v=>?_;have I:=v.1;refine Gd.loop (λ(s:Qb×Hp×Gra×Int)=>Xy s.1/\(∃ BL,QN s.2.1 BL)/\s.2.1.config=c/\s.2.1.dead=false/\GOk s.2.2.1/\(0<=s.2.2.2/\s.2.2.2<=55)/\s.2.1.seq<=257*(55-s.2.2.2)/\(s.2.2.1.nodes.length:Int)<=55-s.2.2.2) _ (λs=>s.2.2.2.toNat) ⟨v.2,⟨_,newH_inv w m Oo⟩,rfl,rfl,k,by dsimp only;rw[Qd Oo];omega,by show (0:Int)<=_;dsimp only;rw[Qd Oo];omega,by dsimp only;rw[y,Qd Oo];show (0:Int)<=_;omega⟩ ?_;rintro ⟨z,h,g,n⟩ ⟨i1,⟨BL,H⟩,i2,i3,i4,i5,i6,i7⟩;dsimp only at i1 H i2 i3 i4 i5 i6 i7;have e:MadeOk c (h,g,z):=⟨⟨BL,H⟩,i2,i3,by show h.seq<=20000;omega,i4,by show g.nodes.length<=60;omega,i1⟩;refine .ite (λj=>?_) λj=>.out e;have j:0<n:=j;refine .call rfl (.ite (λD=>?_) λD=>.out e);refine .bind (op_g i1 i4) λo l=>?_;refine .call (do28_c H Oo l.1) ?_;have a:w64 (n-1)=n-1:=Qd Oo;refine .ite (λf=>.go ⟨l.2,⟨BL,H⟩,i2,i3,i4,by dsimp only;rw[a];omega,by dsimp only;rw[a];omega,by dsimp only;rw[a];omega⟩ (by dsimp only;rw[a];omega)) λf=>?_;have f:¬ (doR h o.1).2.err=18:=f
 have i:=(do_ok H Oo (o:=o.1)).resolve_left f;refine .call (do29_c i4 _) ?_;obtain ⟨A,L⟩:=doG_ok i4 Oo o.1;have J:=i.hi;refine .go ⟨l.2,i.inv,i.cfg.trans i2,i.ded.trans i3,A,by dsimp only;rw[a];omega,by dsimp only;rw[a];omega,by dsimp only;rw[a];omega⟩ (by dsimp only;rw[a];omega)
def pctB:Option (Nat×Int)->Bool
 | some (v,e)=>decide (e=0) && (QeX .gtr v 0 && (QeX .leq v 4607182418800017408 && !QeX .eql v 0))
 | none=>false
theorem pct_all:((List.range 100).all λn=>pctB (Zy ((n+1:Nat):Int)))=true:=by decide +kernel
structure ShrX(x:Nat):Prop where
 ok:Qd1 x
 ne:¬ QeX .eql x 0=true
theorem percent_c{p:Int}(f:1<=p/\p<=100):∃ v,Zy p=some (v,0)/\ShrX v:=by
 obtain ⟨n,rfl⟩:∃ n:Nat,p=((n+1:Nat):Int):=⟨(p-1).toNat,Oo⟩;have h:=WX.1 pct_all n (WE.2 Oo);generalize Zy ((n+1:Nat):Int)=r at h;match r,h with
 | some (v,e),h =>have h:(decide (e=0) && (QeX .gtr v 0 && (QeX .leq v 4607182418800017408 && !QeX .eql v 0)))=true:=h;rw[Vg,Vg,Vg]at h;obtain ⟨a,c,d,b⟩:=h;have a:=of_decide_eq_true a;subst a;exact ⟨v,rfl,.inr ⟨c,d⟩,λq=>by rw[q]at b;cases b⟩
 | none,h=>exact absurd h Od
def nmB(i:Nat)(c:Int):Bool:=(decide (97<=c) && decide (c<=122)) || (!decide (i=0) && (decide (c=45) || (decide (48<=c) && decide (c<=57))))
def nmA(s:ByteArray):Bool:=(List.range s.size).all λi=>match sAt s (i:Int) with | some c=>nmB i c | none=>false
theorem named_c{s:ByteArray}(h:(decide (1<=s.size) && decide (s.size<=16) && nmA s)=true):ZI s=some true:=by
 simp only[Vg,decide_eq_true_eq]at h;obtain ⟨⟨p,q⟩,f⟩:=h;refine Gd.eq ?_;unfold ZI;refine Gd.bndR (P:=λz=>z = .inl ()) ?_ (λ_ d=>.pos Oo (.some (decide_eq_true Oo))) (λr d=>by cases d);refine Gd.for s.size (λ(_:Unit) i=>i) (λi _=>True) () rfl (λ_ _=>rfl) Oo trivial (λi g t j=>?_) (λt j=>rfl);have b:=WX.1 f i (WE.2 g);cases e:sAt s (i:Int) with
 | none=>rw[e]at b;cases b
 | some c =>
  rw[e]at b;unfold nmB at b;simp only[VL,Vg,decide_eq_true_eq,VE,decide_eq_false_iff_not]at b;have go:Gd (λa=>(∃ t':Unit,a=LS.go (β:=Unit ⊕ Bool) (w64 ((i:Int)+1))/\True)\/∃ o,a=LS.out o/\o = .inl ()) (some (LS.go (w64 ((i:Int)+1)))):=.some (.inl ⟨(),rfl,trivial⟩);refine .bind (P:=λv=>v=c) ⟨c,rfl,rfl⟩ λv k=>?_;subst k;refine .ite (λl=>.ite (λm=>go) λm=>?_) λl=>?_;all_goals
   refine .neg Oo (.ite (λn=>go) λn=>.neg Oo (.neg Oo go))
theorem names_ok:∀ s∈[(ByteArray.mk #[115,101,109,105,115,112,97,99,101]),(ByteArray.mk #[97,112,112,101,108]),(ByteArray.mk #[102,105,120,101,100]),(ByteArray.mk #[111,108,100,101,114,45,102,105,114,115,116]),(ByteArray.mk #[120,120]),(ByteArray.mk #[120,120,49,48,48]),(ByteArray.mk #[111,119,110])],(decide (1<=s.size) && decide (s.size<=16) && nmA s)=true:=by decide +kernel
structure RulI(n j:Nat)(r:Rul):Prop where
 shr:Qd1 r.share
 lim:0<=r.limit/\r.limit<=64
 bat:0<=r.batch/\r.batch<=64
 last:j+1=n->r.limit=0/\r.target=j
 next:j+1<n->r.target=j+1
def Qd3(x:Nat)(a:Int):Prop:=if QeX .eql x 0=true then 1<=a/\a<=64 else a=0
structure OwnI(n b:Nat)(rs:List Rul)(full:Int):Prop where
 len:rs.length=b
 rule:∀ j (h:j<rs.length),RulI n j rs[j]
 fl:b<n->full=0
 fin:b=n->∀ h:n-1<rs.length,Qd3 rs[n-1].share full
theorem OwnI.push{n b:Nat}{a:List Rul}{c f':Int}(h:OwnI n b a c){r:Rul}(m:RulI n b r)(l:b+1<n->f'=0)(i:b+1=n->Qd3 r.share f'):OwnI n (b+1) (a++[r]) f':=by
 have d:=h.len;refine ⟨by rw[We,WI,d],λj f=>?_,l,λe f=>?_⟩
 ·rw[We,WI]at f;by_cases k:j<a.length
  ·rw[YL k];exact h.rule j k
  ·have:j=a.length:=by omega
   subst this;rw[U6 (Wn _)];simp only[VV,YV];rw[d];exact m
 ·have:=i e;have g:n-1=a.length:=by omega
  simp only[g];rw[U6 (Wn _)];simp only[VV,YV];exact this
theorem OwnI.cfg{n:Nat}{a:List Rul}{c:Int}(h:OwnI n n a c)(k:1<=n/\n<=4){s:ByteArray}(g:ZI s=some true):Qee ⟨s,a,c⟩:=by
 have i:=h.len;refine ⟨g,by show 1<=a.length/\a.length<=4;omega,λb d=>?_,λb j d=>?_,λd=>?_⟩
 ·have d:b<a.length:=d;have f:=h.rule b d;refine ⟨f.shr,f.lim,f.bat,λe=>f.last (by have:b+1=a.length:=e;omega),λe=>?_⟩;have e:b+1<a.length:=e;have:=f.next Oo;show (b:Int)<a[b].target/\a[b].target<(a.length:Int);omega
 ·have d:b<a.length:=d;refine ⟨b-1,by show b-1<a.length;omega,by show b-1+1<a.length;omega,?_⟩;have:=(h.rule (b-1) Oo).next Oo;show a[b-1].target=(b:Int);omega
 ·have:=h.fin rfl Oo;have e:a.length-1=n-1:=by omega
  show Qd3 (a[a.length-1]'_).share c;simp only[e];exact this
theorem f00:QeX .eql 0 0=true:=by decide +kernel
theorem full0{f:Int}(h:1<=f/\f<=64):Qd3 0 f:=by unfold Qd3;rw[if_pos f00];exact h
theorem fullX{x:Nat}(h:ShrX x):Qd3 x 0:=by unfold Qd3;rw[if_neg h.ne]
theorem own0{n:Nat}(a:1<=n):OwnI n 0 [] 0:=⟨rfl,λj h=>absurd h (WZ _),λ_=>rfl,λe=>by omega⟩
theorem shr0:Qd1 0:=.inl rfl
theorem J7{n j:Nat}{x:Nat}{l b t:Int}(d:Qd1 x)(e:0<=l/\l<=64)(a:0<=b/\b<=64)(f:j+1=n->l=0/\t=j)(c:j+1<n->t=j+1):RulI n j ⟨x,l,b,t⟩:=⟨d,e,a,f,c⟩
theorem one_cfg{x:Nat}{b f:Int}(d:Qd1 x)(a:0<=b/\b<=64)(c:Qd3 x f):OwnI 1 1 [⟨x,0,b,0⟩] f :=
 (own0 (Wn 1)).push (r:=⟨x,0,b,0⟩) (J7 d Oo a (λ_=>⟨rfl,rfl⟩) λh=>by omega) (λh=>by omega) λ_=>c
theorem two_cfg{x y:Nat}{l b a f:Int}(e:Qd1 x)(i:Qd1 y)(g:0<=l/\l<=64)(d:0<=b/\b<=64)(c:0<=a/\a<=64)(j:Qd3 y f):OwnI 2 2 [⟨x,l,b,1⟩,⟨y,0,a,1⟩] f :=
 ((own0 Oo).push (r:=⟨x,l,b,1⟩) (f':=0) (J7 e g d (λh=>by omega) λ_=>rfl) (λ_=>rfl) λh=>by omega).push (r:=⟨y,0,a,1⟩) (J7 i Oo c (λ_=>⟨rfl,rfl⟩) λh=>by omega) (λh=>by omega) λ_=>j
theorem three_cfg{x y z:Nat}{b d a f:Int}(j:Qd1 x)(k:Qd1 y)(i:Qd1 z)(g:0<=b/\b<=64)(e:0<=d/\d<=64)(c:0<=a/\a<=64)(l:Qd3 z f):OwnI 3 3 [⟨x,0,b,1⟩,⟨y,0,d,2⟩,⟨z,0,a,2⟩] f :=
 (((own0 Oo).push (r:=⟨x,0,b,1⟩) (f':=0) (J7 j Oo g (λh=>by omega) λ_=>rfl) (λ_=>rfl) λh=>by omega).push (r:=⟨y,0,d,2⟩) (f':=0) (J7 k Oo e (λh=>by omega) λ_=>rfl) (λ_=>rfl) λh=>by omega).push (r:=⟨z,0,a,2⟩) (J7 i Oo c (λ_=>⟨rfl,rfl⟩) λh=>by omega) (λh=>by omega) λ_=>l
def nameL:List ByteArray:=[(ByteArray.mk #[115,101,109,105,115,112,97,99,101]),(ByteArray.mk #[97,112,112,101,108]),(ByteArray.mk #[102,105,120,101,100]),(ByteArray.mk #[111,108,100,101,114,45,102,105,114,115,116]),(ByteArray.mk #[120,120]),(ByteArray.mk #[120,120,49,48,48])]
def nameB(i j:Nat):Bool:=match nameL[i]?,nameL[j]? with | some s,some t=>(s.toList == t.toList) == decide (i=j) | _,_=>false
theorem names_ne:((List.range 6).all λi=>(List.range 6).all λj=>nameB i j)=true:=by decide +kernel
theorem name_e{i j:Nat}{s t:ByteArray}(d:nameL[i]?=some s)(c:nameL[j]?=some t)(b:i<6)(a:j<6):(s.toList == t.toList)=decide (i=j):=by have h:=WX.1 (WX.1 names_ne i (WE.2 b)) j (WE.2 a);unfold nameB at h;rw[d,c]at h;simpa using h
theorem get_c{i:Nat}(m:i<6){s:ByteArray}(n:nameL[i]?=some s){p:Int}(w:1<=p/\p<=100):Gd (λr=>Qee r.1) (Qa2 s p):=by
 obtain ⟨v,u,c⟩:=percent_c w;have d:ZI s=some true:=named_c (names_ok s (by
  have:=Wq n
  unfold nameL at this
  simp only[Ww,W3,or_false]at this ⊢
  rcases this with h | h | h | h | h | h <;> simp[h]))
 have a:∀ {j:Nat} {t:ByteArray},nameL[j]?=some t->j<6->i≠j->¬ (s.toList == t.toList)=true:=λ{j t} g k l q=>by rw[name_e n g m k]at q;exact l (of_decide_eq_true q)
 have e:∀ {t:ByteArray},nameL[i]?=some t->(s.toList == t.toList)=true:=λ{t} g=>by rw[name_e n g m m];exact decide_eq_true rfl
 unfold Qa2;refine .call u (.pos rfl ?_);have b:¬ p<1:=by omega
 have z:(0:Int)<=0/\(0:Int)<=64:=by omega
 have o:(0:Int)<=1/\(1:Int)<=64:=by omega
 have f:Qd3 0 8:=full0 Oo;rcases i with _ | _ | _ | _ | _ | _ | i
 ·exact .pos (e rfl) (.neg b (.some ((one_cfg shr0 z (full0 Oo)).cfg Oo d)))
 ·exact .neg (a (j:=0) rfl Oo Oo) (.pos (e rfl) (.neg b (.some ((two_cfg shr0 shr0 z z z f).cfg Oo d))))
 ·exact .neg (a (j:=0) rfl Oo Oo) (.neg (a (j:=1) rfl Oo Oo) (.pos (e rfl) (.neg b (.some ((two_cfg c.ok shr0 o z z f).cfg Oo d)))))
 ·exact .neg (a (j:=0) rfl Oo Oo) (.neg (a (j:=1) rfl Oo Oo) (.neg (a (j:=2) rfl Oo Oo) (.pos (e rfl) (.neg b (.some ((one_cfg c.ok o (fullX c)).cfg Oo d))))))
 ·exact .neg (a (j:=0) rfl Oo Oo) (.neg (a (j:=1) rfl Oo Oo) (.neg (a (j:=2) rfl Oo Oo) (.neg (a (j:=3) rfl Oo Oo) (.pos (e rfl) (.neg b (.some ((two_cfg c.ok c.ok z o o (fullX c)).cfg Oo d)))))))
 ·exact .neg (a (j:=0) rfl Oo Oo) (.neg (a (j:=1) rfl Oo Oo) (.neg (a (j:=2) rfl Oo Oo) (.neg (a (j:=3) rfl Oo Oo) (.neg (a (j:=4) rfl Oo Oo) (.pos (e rfl) (.neg b (.some ((three_cfg c.ok c.ok shr0 o o z f).cfg Oo d))))))))
 ·omega
theorem Qee.more{c:Cfg}(h:Qee c)(d:0<c.full){f:Int}(b:1<=f/\f<=64):Qee ⟨c.name,c.rules,f⟩:=by
 refine ⟨h.name,h.len,h.rule,h.aim,λa=>?_⟩;have:=h.full a;split at this
 ·rename_i e;show if _ then _ else _;rw[if_pos e];exact b
 ·omega
theorem shares_ok:∀ x∈[4602678819172646912,4593671619917905920,4607182418800017408,4599676419421066581,4562254508917369340],(QeX .gtr x 0 && QeX .leq x 4607182418800017408)=true:=by decide +kernel
theorem share_g{d:Qb}(i:Xy d):Gd (λr=>Qd1 r.1/\Xy r.2) (Qaw d):=by
 unfold Qaw;refine .bind (Q9 i Oo) λj f=>.ite (λ_=>?_) λ_=>?_
 ·refine .bind (Q9 f.2 Oo) λb a=>?_;have c:=a.1;have e:b.1.toNat<([4602678819172646912,4593671619917905920,4607182418800017408,4599676419421066581,4562254508917369340]:List Nat).length:=by simp only[W7,VU];omega
  refine .at c.1 e (.some ⟨?_,a.2⟩);have:=shares_ok _ (Wd e);rw[Vg]at this;exact .inr this
 ·refine .bind (Q9 f.2 Oo) λb a=>?_;have c:=a.1;rw[Qd Oo];obtain ⟨v,g,h⟩:=percent_c (p:=1+b.1) Oo;exact .call g (.some ⟨h.ok,a.2⟩)
def OwnS(n:Nat)(s:Qb×List Rul×Int×Int):Prop:=Xy s.1/\∃ b:Nat,s.2.2.2=(b:Int)/\b<=n/\OwnI n b s.2.1 s.2.2.1
def OwnQ(n:Nat)(b:Qb×List Rul×Int):Prop:=Xy b.1/\OwnI n n b.2.1 b.2.2
theorem QfW{n b:Nat}{d:Qb}{a:List Rul}{f f':Int}{r:Rul}{m:Nat}(p:n<=4)(l:b<n)(h:OwnI n b a f)(j:Xy d)(i:RulI n b r)(g:b+1<n->f'=0)(c:b+1=n->Qd3 r.share f')(o:n-b=m) :
  Gd (LSP (OwnS n) (OwnQ n) (λs=>n-s.2.2.2.toNat) m) (if ((a.length:Int)+([r]:List Rul).length)*32<=140737488355328/\(a.length:Int)+([r]:List Rul).length<=9223372036854775807 then some (LS.go (d,a++[r],f',w64 ((b:Int)+1))) else none):=by
 have k:=h.len;have e:w64 ((b:Int)+1)=((b+1:Nat):Int):=by rw[Qd Oo];push_cast;rfl
 rw[e];refine .pos (by rw[WI];omega) (.go ⟨j,b+1,rfl,Oo,h.push i g c⟩ ?_);show n-(((b+1:Nat):Int)).toNat<m;rw[Wc];omega
set_option maxHeartbeats 1000000 in
theorem config_g{d:Qb}(B:Xy d):Gd (λr=>Qee r.1/\Xy r.2) (J2 d):=by
 unfold J2;refine .bind (Q9 B Oo) λr2 N=>.ite (λ_=>?_) λ_=>?_
 ·refine .call (show QaN=some nameL from rfl) (.bind (Q9 N.2 Oo) λG O=>?_);have R:=O.1;have M:G.1.toNat<nameL.length:=by show G.1.toNat<6;omega
  refine .at R.1 M (.bind (Q9 O.2 Oo) λv Q=>.bind (Q9 Q.2 Oo) λD H=>?_);have k7:=Q.1;have S:=H.1;rw[Qd (n:=1+v.1) Oo];have t:D.1.toNat<([10,15,25,30,50,1+v.1]:List Int).length:=by simp only[W7,VU];omega
  refine .at S.1 t ?_;have T:1<=([10,15,25,30,50,1+v.1]:List Int)[D.1.toNat]/\([10,15,25,30,50,1+v.1]:List Int)[D.1.toNat]<=100:=by have o:=Wd t;generalize ([10,15,25,30,50,1+v.1]:List Int)[D.1.toNat]=y at o;simp only[Ww,W3,or_false]at o;omega
  refine .bind (get_c (i:=G.1.toNat) Oo (Wa M) T) λX w=>.ite (λY=>?_) λ_=>.some ⟨w,H.2⟩;refine .bind (Q9 H.2 Oo) λZ x=>.some ⟨?_,x.2⟩;have U:=x.1;rw[Qd Oo];exact w.more Y Oo
 ·refine .bind (Q9 N.2 Oo) λp z=>?_;have V:=z.1;rw[Qd (n:=1+p.1) Oo];obtain ⟨n,en⟩:∃ n:Nat,1+p.1=(n:Int):=⟨(1+p.1).toNat,Oo⟩;rw[en];have u:1<=n:=by omega
  have c:n<=4:=by omega
  rw[Qd (n:=(n:Int)-1) Oo];refine Gd.bind (P:=OwnQ n) ?_ λb e=>.some ⟨e.2.cfg ⟨u,c⟩ (named_c (names_ok _ Os)),e.1⟩;refine Gd.loop (OwnS n) (OwnQ n) (λs=>n-s.2.2.2.toNat) ⟨z.2,0,rfl,Oo,own0 u⟩ ?_;rintro ⟨d,rs,f,i⟩ ⟨B,b,eb,hbn,hI⟩;dsimp only at B eb hI ⊢;subst eb;refine .ite (λe=>?_) λe=>.out ⟨B,?_⟩
  ·have e:b<n:=by omega
   have j:=hI.fl e;have o:n-b=n-((b:Nat):Int).toNat:=by rw[Wc]
   have C:w64 ((b:Int)+1)=((b+1:Nat):Int):=by rw[Qd Oo];push_cast;rfl
   refine .bind (Q9 B Oo) λaa A=>.bind (Q9 A.2 Oo) λab q=>?_;have W:=A.1;refine .ite (λ_=>?_) λ_=>?_
   ·refine .bind (share_g q.2) λac g=>.ite (λa=>?_) λa=>?_
    ·have a:(b:Int)<(n:Int)-1:=a;refine .bind (Q9 g.2 Oo) λI k=>.ite (λ_=>?_) λ_=>?_
     ·refine .bind (Q9 k.2 Oo) λJ l=>.neg Oo ?_;have E:=l.1;refine QfW c e hI l.2 ?_ (λ_=>j) (λh=>by omega) o;exact J7 g.1 (by rw[Qd Oo];omega) Oo (λh=>by omega) λ_=>by rw[C];push_cast;rfl
     ·refine .neg Oo (QfW c e hI k.2 ?_ (λ_=>j) (λh=>by omega) o);exact J7 g.1 Oo Oo (λh=>by omega) λ_=>by rw[C];push_cast;rfl
    ·have a:¬ (b:Int)<(n:Int)-1:=a;refine .pos Oo (.ite (λK=>?_) λK=>?_)
     ·refine .bind (Q9 g.2 Oo) λL m=>?_;have F:=m.1;refine QfW c e hI m.2 (J7 g.1 Oo Oo (λ_=>⟨rfl,rfl⟩) λh=>by omega) (λh=>by omega) (λ_=>?_) o;rw[Qd Oo];unfold Qd3;rw[if_pos K];omega
     ·refine QfW c e hI g.2 (J7 g.1 Oo Oo (λ_=>⟨rfl,rfl⟩) λh=>by omega) (λh=>by omega) (λ_=>?_) o;unfold Qd3;rw[if_neg K];exact j
   ·refine .ite (λa=>?_) λa=>?_
    ·have a:(b:Int)<(n:Int)-1:=a;refine .bind (Q9 q.2 Oo) λI k=>.ite (λ_=>?_) λ_=>?_
     ·refine .bind (Q9 k.2 Oo) λJ l=>.neg Oo ?_;have E:=l.1;refine QfW c e hI l.2 ?_ (λ_=>j) (λh=>by omega) o;exact J7 shr0 (by rw[Qd Oo];omega) Oo (λh=>by omega) λ_=>by rw[C];push_cast;rfl
     ·refine .neg Oo (QfW c e hI k.2 ?_ (λ_=>j) (λh=>by omega) o);exact J7 shr0 Oo Oo (λh=>by omega) λ_=>by rw[C];push_cast;rfl
    ·have a:¬ (b:Int)<(n:Int)-1:=a;refine .pos Oo ?_;refine .bind (Q9 q.2 Oo) λL m=>?_;have F:=m.1;refine QfW c e hI m.2 (J7 shr0 Oo Oo (λ_=>⟨rfl,rfl⟩) λh=>by omega) (λh=>by omega) (λ_=>full0 ?_) o;rw[Qd Oo];omega
  ·have e:¬ (b:Int)<n:=e;have:b=n:=by omega
   subst this;exact hI
theorem heap_g{d:Qb}(e:Xy d):Gd (λr=>∃ c,MadeOk c r) (Qa7 d):=by unfold Qa7;refine .bind (config_g e) λf a=>.bind (heapOf_g a.1 a.2) λg b=>.some ⟨_,b⟩
theorem low_bit:∀ (m:Nat),0<m->∃ j q,m=2^(j+1)*q+2^j
 | m,h=>by
  by_cases e:m%2=1
  ·exact ⟨0,m/2,by simp;omega⟩
  ·obtain ⟨j,q,a⟩:=low_bit (m/2) Oo;refine ⟨j+1,q,?_⟩;have:m=2*(m/2):=by omega
   rw[this,a,Nat.mul_add,<- Nat.mul_assoc,<- Nat.pow_succ',<- Nat.pow_succ']
theorem bit_at(j q i:Nat):(2^(j+1)*q+2^j).testBit i=if i<=j then decide (i=j) else q.testBit (i-(j+1)):=by
 rw[Yz _ (U1 Oo Oo)];by_cases h:i<j+1
 ·rw[if_pos h,if_pos Oo,U9];by_cases e:i=j
  ·rw[decide_eq_true e,decide_eq_true e.symm]
  ·rw[decide_eq_false e,decide_eq_false (λk=>e k.symm)]
 ·rw[if_neg h,if_neg Oo]
theorem bit_pred(j q i:Nat):(2^(j+1)*q+2^j-1).testBit i=if i<=j then decide (i<j) else q.testBit (i-(j+1)):=by
 have a:=Yw j;rw[Nat.add_sub_assoc a,Yz _ (by rw[Nat.pow_succ];omega)];by_cases h:i<j+1
 ·rw[if_pos h,if_pos Oo,Nat.testBit_two_pow_sub_one]
 ·rw[if_neg h,if_neg Oo]
theorem and_pred(j q i:Nat):((2^(j+1)*q+2^j) &&& (2^(j+1)*q+2^j-1)).testBit i=((2^(j+1)*q+2^j).testBit i && !decide (i=j)):=by
 rw[Nat.testBit_and,bit_at,bit_pred];by_cases h:i<=j
 ·rw[if_pos h,if_pos h];by_cases e:i=j
  ·simp[e]
  ·simp[e]
 ·rw[if_neg h,if_neg h];have:¬ i=j:=by omega
  simp[this]
theorem and_neg{j q:Nat}(h:2^(j+1)*q+2^j<2^64):(2^(j+1)*q+2^j) &&& (2^64-(2^(j+1)*q+2^j))=2^j:=by
 have d:=Yw j;apply Nat.eq_of_testBit_eq;intro i;have e:2^64-(2^(j+1)*q+2^j)=2^64-((2^(j+1)*q+2^j-1)+1):=by omega
 rw[Nat.testBit_and,e,Nat.testBit_two_pow_sub_succ Oo,bit_pred,bit_at,U9];have b:j<64:=by refine (YN (a:=2) Oo).1 ?_;omega
 by_cases h:i<=j
 ·rw[if_pos h,if_pos h];by_cases e:i=j
  ·subst e;simp[b]
  ·have:¬ j=i:=λk=>e k.symm;simp[e,this]
 ·rw[if_neg h,if_neg h];have:¬ j=i:=by omega
  by_cases c:q.testBit (i-(j+1))=true <;> simp[c,this]
theorem tab_all:((List.range 64).all λj=>tabL[(2^j*285870213051353865%18446744073709551616)/288230376151711744]? == some (j:Int))=true:=by decide +kernel
theorem low_lt{j q:Nat}(h:2^(j+1)*q+2^j<18446744073709551616):j<64:=by refine (YN (a:=2) Oo).1 ?_;omega
theorem wu_nat{n:Nat}(h:n<=18446744073709551615):wu (n:Int)=n:=Z5 Oo
theorem wu_mod(n:Nat):wu (n:Int)=((n%18446744073709551616:Nat):Int):=by unfold wu;rw[IntKind.wrap_u64];omega
theorem tz_c{j q:Nat}(h:2^(j+1)*q+2^j<18446744073709551616):QX ((2^(j+1)*q+2^j:Nat):Int)=some (j:Int):=by
 have k:=Yw j;have c:=low_lt h;refine Gd.eq ?_;unfold QX;refine .neg Oo ?_;have d:wu (0-((2^(j+1)*q+2^j:Nat):Int))=((2^64-(2^(j+1)*q+2^j):Nat):Int):=by unfold wu;rw[IntKind.wrap_u64];omega
 rw[d,(QfF h Oo).1,and_neg h];have f:((2^j:Nat):Int)*285870213051353865=((2^j*285870213051353865:Nat):Int):=(YW (2^j) 285870213051353865).symm;rw[f,wu_mod];have g:QbB .u64 ((2^j*285870213051353865%18446744073709551616:Nat):Int) 58=((2^j*285870213051353865%18446744073709551616/288230376151711744:Nat):Int):=by have:=shru (a:=((2^j*285870213051353865%18446744073709551616:Nat):Int)) (j:=58) Oo Oo;rw[show ((58:Nat):Int)=58 from rfl]at this;rw[this];generalize 2^j*285870213051353865%18446744073709551616=x;rw[show (2:Int)^58=((288230376151711744:Nat):Int) from by decide];exact (Uu x 288230376151711744).symm
 rw[g];have b:=WX.1 tab_all j (WE.2 c);simp only[beq_iff_eq]at b;generalize 2^j*285870213051353865%18446744073709551616/288230376151711744=x at b;obtain ⟨i,e⟩:=Wm.1 b;refine .atN i (.some ?_);rw[e];exact Qd Oo
theorem filter_low{p:Nat->Bool}{j:Nat}(e:p j=true)(c:∀ i,i<j->p i=false):∀ n,(List.range n).filter p=if j<n then j :: (List.range n).filter (λi=>p i && !decide (i=j)) else []
 | 0=>by rw[if_neg Oo];rfl
 | n+1=>by
  rw[Ur,W4,W4,filter_low e c n];by_cases a:j<n
  ·have:¬ n=j:=by omega
   rw[if_pos a,if_pos Oo,List.cons_append];simp[VA,this]
  ·by_cases b:n=j
   ·subst b;rw[if_neg a,if_pos Oo,V4];have:(List.range n).filter (λi=>p i && !decide (i=n))=[]:=by rw[Ut];intro i d;rw[WE]at d;simp[c i d]
    rw[this];simp[VA,e]
   ·rw[if_neg a,if_neg Oo,V4];simp[VA,c n Oo]
theorem Qge{p:Nat->Bool}{a:Nat}(h:∀ i,a<=i->p i=false):∀ d,(List.range (a+d)).filter p=(List.range a).filter p
 | 0=>rfl
 | d+1=>by rw[<- Vi,Ur,W4,Qge h d];simp[VA,h (a+d) Oo]
structure MskP(fs:List Fe)(l:List Inc)(m:Nat):Prop where
 lt:m<18446744073709551616
 bit:∀ j,m.testBit j=isC fs l j
theorem set_c{s:Sp}(z:s.fs.length<=64){l:List Inc}(A:l.length<=9223372036854775806):∃ m:Nat,QaP s l=some (m:Int)/\MskP s.fs l m:=by
 suffices h:Gd (λr:Int=>∃ m:Nat,r=(m:Int)/\MskP s.fs l m) (QaP s l) by obtain ⟨r,x,m,rfl,y⟩:=h;exact ⟨m,x,y⟩
 unfold QaP;refine Gd.bind (P:=λr:Int=>∃ m:Nat,r=(m:Int)/\MskP s.fs l m) ?_ λb a=>.some a;refine Gd.for s.fs.length (λ(t:Int) i=>(t,i)) (λi t=>∃ m:Nat,t=(m:Int)/\m<18446744073709551616/\∀ j,m.testBit j=(decide (j<i) && isC s.fs l j)) 0 rfl (λ_ _=>rfl) Oo ⟨0,rfl,Oo,λj=>by simp⟩ (λi v t f=>?_) (λt f=>?_)
 ·obtain ⟨p,rfl,c,a⟩:=f;refine Gd.bind (P:=λr:Int=>∃ m:Nat,r=(m:Int)/\m<18446744073709551616/\∀ j,m.testBit j=(decide (j<i+1) && isC s.fs l j)) ?_ λb a=>.some (.inl ⟨b,rfl,a⟩);refine .atN v ?_;refine Gd.for l.length (λ(t:Int) i=>(t,i)) (λk t=>∃ m:Nat,t=(m:Int)/\m<18446744073709551616/\∀ j,m.testBit j=((decide (j<i) && isC s.fs l j) || (decide (j=i) && decide (s.fs[i].ow∈(l.take k).map Inc.seq)))) (p:Int) rfl (λ_ _=>rfl) Oo ⟨p,rfl,c,λj=>by rw[a j];simp⟩ (λk w t f=>?_) (λt f=>?_)
  ·obtain ⟨m,rfl,c,a⟩:=f;have g:(l.take (k+1)).map Inc.seq=(l.take k).map Inc.seq++[l[k].seq]:=by rw[Va w,WM];rfl
   refine .atN w (.ite (λe=>?_) λe=>?_)
   ·have e:s.fs[i].ow=l[k].seq:=e;refine .pos Oo (.pos (wu_u _).1 ?_);have o:(2:Nat)^i<18446744073709551616:=by have:(2:Nat)^i<2^64:=U1 Oo Oo;exact this
    rw[wu_nat (n:=i) Oo,shlu1 Oo,show (2:Int)^i=((2^i:Nat):Int) from (Int.natCast_pow 2 i).symm,(QfF c o).2];refine .some (.inl ⟨((m ||| 2^i:Nat):Int),rfl,m ||| 2^i,rfl,?_,λj=>?_⟩)
    ·have:m ||| 2^i<2^64:=YI c o;exact this
    ·rw[Nat.testBit_or,a j,U9,g];by_cases d:j=i
     ·subst d;simp[e]
     ·have:¬ i=j:=λq=>d q.symm;simp[d,this]
   ·have e:¬ s.fs[i].ow=l[k].seq:=e;refine .some (.inl ⟨(m:Int),rfl,m,rfl,c,λj=>?_⟩);rw[a j,g];simp[e]
  ·obtain ⟨m,rfl,c,a⟩:=f;refine ⟨m,rfl,c,λj=>?_⟩;rw[a j,WN];by_cases d:j=i
   ·subst d;rw[QdP v];simp
   ·by_cases u:j<i
    ·simp[u,d,show j<i+1 by omega]
    ·simp[u,d,show ¬ j<i+1 by omega]
 ·obtain ⟨m,rfl,c,a⟩:=f;refine ⟨m,rfl,c,λj=>?_⟩;rw[a j];by_cases e:j<s.fs.length
  ·simp[e]
  ·have:isC s.fs l j=false:=by
    cases h:isC s.fs l j with
    | false=>rfl
    | true=>exact absurd (Qes.1 h).1 e
   simp[e,this]
theorem sframes_c{s:Sp}(r:s.fs.length<=64){l:List Inc}(E:l.length<=9223372036854775806):JK s l=some ((cfr s.fs l).map λ(k:Nat)=>(k:Int)):=by
 obtain ⟨m,B,y⟩:=set_c r E;have f:cfr s.fs l=(List.range 64).filter m.testBit:=by
  unfold cfr;have u:=Qge (p:=isC s.fs l) (a:=s.fs.length) (λi C=>by
   cases h:isC s.fs l i with
   | false=>rfl
   | true=>have:=(Qes.1 h).1;omega) (64-s.fs.length)
  rw[show s.fs.length+(64-s.fs.length)=64 by omega]at u;rw[<- u];congr 1;funext j;exact (y.bit j).symm
 refine Gd.eq ?_;unfold JK;refine Gd.bind (P:=λb=>b=(cfr s.fs l).map λ(k:Nat)=>(k:Int)) ?_ λb D=>.some D;refine .call B ?_;refine Gd.loop (λ(x:List Int×Int)=>∃ (t:List Nat) (w:Nat),x=(t.map λ(k:Nat)=>(k:Int),(w:Int))/\w<18446744073709551616/\t.length<=64/\t++(List.range 64).filter w.testBit=(List.range 64).filter m.testBit) _ (λx=>x.2.toNat) ⟨[],m,rfl,y.lt,Os,rfl⟩ ?_;rintro x ⟨t,w,rfl,hw,htl,ht⟩;dsimp only;refine .ite (λg=>.out ?_) λg=>?_
 ·have:w=0:=by omega
  subst this;rw[f,<- ht];have:(List.range 64).filter (Nat.testBit 0)=[]:=by rw[Ut];intro i _;simp
  rw[this,W6]
 ·have g:¬ (w:Int)=0:=g;obtain ⟨j,q,e⟩:=low_bit w Oo;subst e;have z:=low_lt hw;refine .call (tz_c hw) ?_;have c:=filter_low (p:=(2^(j+1)*q+2^j).testBit) (j:=j) (by rw[bit_at];simp) (λi C=>by rw[bit_at,if_pos Oo];simp;omega) 64;rw[if_pos z]at c;have v:=Yw j;have A:bits .and .u64 ((2^(j+1)*q+2^j:Nat):Int) (wu (((2^(j+1)*q+2^j:Nat):Int)-1))=(((2^(j+1)*q+2^j) &&& (2^(j+1)*q+2^j-1):Nat):Int):=by rw[show ((2^(j+1)*q+2^j:Nat):Int)-1=((2^(j+1)*q+2^j-1:Nat):Int) by omega,wu_nat Oo,(QfF hw Oo).1]
  have o:(List.range 64).filter ((2^(j+1)*q+2^j) &&& (2^(j+1)*q+2^j-1)).testBit=(List.range 64).filter (λi=>(2^(j+1)*q+2^j).testBit i && !decide (i=j)):=by congr 1;funext i;exact and_pred j q i
  have d:(t++(List.range 64).filter (2^(j+1)*q+2^j).testBit).length<=64:=by rw[ht];have:=Vf m.testBit (List.range 64);rw[WQ]at this;exact this
  rw[c,We,W7]at d;rw[A];refine .pos (by rw[Wb,WI];omega) (.go ⟨t++[j],(2^(j+1)*q+2^j) &&& (2^(j+1)*q+2^j-1),by rw[WM];rfl,?_,by rw[We,WI];omega,?_⟩ ?_)
  ·exact YC Nat.and_le_left hw
  ·rw[o,<- ht,c,WH];rfl
  ·rw[Wc,Wc];have:=Nat.and_le_right (n:=2^(j+1)*q+2^j) (m:=2^(j+1)*q+2^j-1);omega
theorem asc_all{l:List Int}(h:Asc l)(c:∀ k:0<l.length,0<=l[0]):∀ y∈l,0<=y:=λy b=>by
 obtain ⟨i,a,rfl⟩:=WP.1 b;have:=c Oo;rcases V6 i with rfl | hp
 ·exact this
 ·have:=h.lt' 0 i Oo a hp;omega
def bigQ(q:Int):Bool:=decide (16384<=q)
theorem asc_lenK{l:List Int}(h:Asc l)(f:∀ y∈l,0<=y):l.length<=16384+(l.filter bigQ).length:=by
 have g:(l.filter λq=>!bigQ q).length<=16384:=asc_le (Asc.pw.2 ((Asc.pw.1 h).filter _)) λy d=>by
  obtain ⟨c,a⟩:=WU.1 d;have:=f y c;unfold bigQ at a;have a:¬ 16384<=y:=by simpa using a
  omega
 have b:=List.length_eq_countP_add_countP (l:=l) bigQ;rw[Yx,Yx]at b;have e:(l.filter λq=>decide ¬ bigQ q=true)=l.filter λq=>!bigQ q:=by congr 1;funext q;cases bigQ q <;> rfl
 rw[e]at b;omega
def SlK(K:Nat)(l:List Qe):Prop:=∀ x∈l,(x.slots.filter bigQ).length<=K
theorem Qm.szK{l:List Qe}(h:Qm l){K:Nat}(d:SlK K l)(e:K<=80000):SetsSz l:=⟨by have:=h.len;omega,λx b=>by
 obtain ⟨_,_,_,c,a⟩:=h.1 x b
 have:=asc_lenK a (asc_all a c)
 have:=d x b
 omega⟩
theorem withI_big{l:List Int}{q:Int}(a:bigQ q=false):(QbU l q).filter bigQ=l.filter bigQ:=by
 unfold QbU;split
 ·rfl
 ·rw[ins_eq,if_pos (Qeo l q),W4,W4];have:[q].filter bigQ=[]:=by simp[a]
  rw[this,W6,<- W4,Vu]
theorem putK_mem{l:List Qe}{f t q:Int}{x:Qe}(h:x∈putK l f t q):x∈l\/(∃ y∈l,x=⟨f,t,QbU y.slots q⟩)\/x=⟨f,t,[q]⟩:=by
 unfold putK at h;split at h
 ·rename_i hp;rcases W2 h with h | h
  ·exact .inl h
  ·exact .inr (.inl ⟨_,Wd hp.1,h⟩)
 ·rw[ins_eq]at h;split at h
  ·rcases Wk.1 h with h | h
   ·rcases Wk.1 h with h | h
    ·exact .inl (VJ h)
    ·exact .inr (.inr (Wo.1 h))
   ·exact .inl (VT h)
  ·exact .inl h
theorem putK_big{l:List Qe}{K:Nat}(h:SlK K l){f t q:Int}(e:q<16384):SlK K (putK l f t q):=λx d=>by
 have a:bigQ q=false:=by unfold bigQ;simp;omega
 rcases putK_mem d with b | ⟨y,c,rfl⟩ | rfl
 ·exact h x b
 ·dsimp only;rw[withI_big a];exact h y c
 ·have:[q].filter bigQ=[]:=by simp[a]
  dsimp only;rw[this];exact WR _
theorem noteK_okK{s:Sp}(j:ZO s){l:List Qe}(b:Qm l){K:Nat}(a:SlK K l)(p w:Int):Qm (Qco s l p w)/\SlK K (Qco s l p w):=by
 unfold Qco;split
 ·rename_i h;obtain ⟨c,d,e,f,g,i⟩:=h.rng j;exact ⟨(putK_ok b ⟨c,d⟩ ⟨e,f⟩ g).1,putK_big a i⟩
 ·exact ⟨b,a⟩
theorem noteL_okK{s:Sp}(a:ZO s){K:Nat}:∀ (ps:List Int) {l:List Qe},Qm l->SlK K l->Qm (X6 s l ps)/\SlK K (X6 s l ps)
 | [],l,hl,hi=>⟨hl,hi⟩
 | p :: ps,l,hl,hi=>by obtain ⟨b,c⟩:=noteK_okK a hl hi p (wAt s p);exact noteL_okK a ps b c
def RebP(s:Sp)(l:List Qe)(ps:List Int)(mv:List Mov):Prop:=ZO s/\Qm l/\(∀ p∈ps,0<=p/\p<s.ws.length)/\∀ m∈mv,(Qc8 s m.to).2=0
def RebR(s:Sp)(l:List Qe)(c:List Inc)(ps:List Int)(mv:List Mov):List Qe×Int:=open Classical in if RebP s l ps mv then(renK s l c ps mv,0) else([],1)
theorem radd_c{s:Sp}(a:ZO s)(j:SpW s){l:List Qe}(m:Qm l)(f:SetsSz l)(p e:Int):Zg p s e l=some (if 0<=p/\p<s.ws.length then(s,e,Qco s l p (wAt s p)) else(s,1,l)):=by have g:=Xv a;refine Gd.eq ?_;unfold Zg;refine .ite (λh=>.some (by rw[if_neg Oo])) λt=>?_;refine .ite (λh=>.some (by rw[if_neg Oo])) λu=>?_;rw[if_pos Oo];refine .at Oo Oo ?_;rw[<- Qcu Oo Oo];have d:=QfK j p;unfold U64 at d;refine .call (needs_c a d) ?_;unfold Qco;refine .ite (λb=>?_) λb=>.some (by rw[if_neg λk=>b (QbD k)]);have b:=Q0.1 b;rw[if_pos b];obtain ⟨o,q,i,r⟩:=b.1;refine .pos (QfJ a.shp.sh) ?_;rw[QfO a.shp.sh p.toNat Oo,Z5 (n:=wAt s p-1) Oo,Qd (n:=wAt s p-1) Oo,QfO a.shp.sh (wAt s p-1).toNat Oo];refine .call (insert_c f.1 f.2 _ _ _) ?_;have c:Qm l/\(0<=((p.toNat/szS s:Nat):Int)/\((p.toNat/szS s:Nat):Int)<64)/\(0<=(((wAt s p-1).toNat/szS s:Nat):Int)/\(((wAt s p-1).toNat/szS s:Nat):Int)<64)/\0<=p:=⟨m,frOf_in a Oo Oo,frOf_in a Oo Oo,i⟩;rw[if_pos c];exact .pos rfl (.some rfl)
def addL(s:Sp)(l:List Qe)(ps:List Int):List Qe:=X6 s l (ps.filter λp=>decide (0<=p) && decide (p<(s.ws.length:Int)))
theorem noteL_snoc(s:Sp)(l:List Qe)(ps:List Int)(p:Int):X6 s l (ps++[p])=Qco s (X6 s l ps) p (wAt s p):=by unfold X6;rw[Un];rfl
theorem filt_in{s:Sp}{ps:List Int}(h:∀ p∈ps,0<=p/\p<s.ws.length):(ps.filter λp=>decide (0<=p) && decide (p<(s.ws.length:Int)))=ps:=VI.2 λp a=>by have:=h p a;simp;omega
open Classical in
theorem add_loop {γ:Type} {s:Sp} (k:ZO s) (w:SpW s) {K:Nat} (v:K<=80000) (J:Sp×List Qe×Int->γ) {Q:γ->Prop} {ps:List Int} (r:ps.length<=9223372036854775806) {l:List Qe} {e:Int} (u:Qm l) (g:SlK K l)
  (o:∀ l',Qm l'->SlK K l'->((∀ p∈ps,0<=p/\p<s.ws.length)->l'=X6 s l ps)->Q (J (s,l',if ∀ p∈ps,0<=p/\p<s.ws.length then e else 1))) :
  Gd Q (Qg (λ(s11:Sp×List Qe×Int×Int) =>
   if s11.2.2.2<(ps.length:Int) then
   ((at_ ps s11.2.2.2).bind λv16 =>
   (Zg v16 s11.1 s11.2.2.1 s11.2.1).bind λv17 =>
   some (LS.go ((v17.1,v17.2.2,v17.2.1,w64 (s11.2.2.2+1)))))
   else
   some (LS.out (J (s11.1,s11.2.1,s11.2.2.1)))) (s,l,e,0)):=by
 refine Gd.for ps.length (λ(t:List Qe×Int) i=>(s,t.1,t.2,i)) (λi t=>t.1=addL s l (ps.take i)/\t.2=(if ∀ p∈ps.take i,0<=p/\p<s.ws.length then e else 1)/\Qm t.1/\SlK K t.1) (l,e) rfl (λ_ _=>rfl) r ⟨rfl,Os,u,g⟩ (λi g t j=>?_) (λt j=>?_)
 ·obtain ⟨a,f,b,c⟩:=j;refine .atN g (.call (radd_c k w b (b.szK c v) _ _) ?_);have d:ps.take (i+1)=ps.take i++[ps[i]]:=Va g;by_cases h:0<=ps[i]/\ps[i]<s.ws.length
  ·rw[if_pos h];obtain ⟨m,n⟩:=noteK_okK k b c ps[i] (wAt s ps[i]);refine .some (.inl ⟨(Qco s t.1 ps[i] (wAt s ps[i]),t.2),rfl,?_,?_,m,n⟩)
   ·dsimp only;unfold addL at a ⊢;rw[d,W4,show [ps[i]].filter (λp=>decide (0<=p) && decide (p<(s.ws.length:Int)))=[ps[i]] by simp[h.1,h.2],noteL_snoc,<- a]
   ·dsimp only;rw[f];congr 1;rw[d];refine propext ⟨λq x hx=>?_,λq x hx=>q x (Wg _ hx)⟩;rcases Wk.1 hx with hx | hx
    ·exact q x hx
    ·rw[Wo.1 hx];exact h
  ·rw[if_neg h];refine .some (.inl ⟨(t.1,1),rfl,?_,?_,b,c⟩)
   ·dsimp only;unfold addL at a ⊢;rw[d,W4,show [ps[i]].filter (λp=>decide (0<=p) && decide (p<(s.ws.length:Int)))=[] by simpa using h,W6,a]
   ·dsimp only;rw[if_neg];intro q;exact h (q _ (by rw[d];exact Wj _ (Wo.2 rfl)))
 ·obtain ⟨a,f,b,c⟩:=j;rw[WN]at a f;have:=o t.1 b c λh=>by rw[a];unfold addL;rw[filt_in h]
  rw[<- f]at this;exact this
theorem movF_snoc(s:Sp)(mv:List Mov)(m:Mov):movF s (mv++[m])=movF s mv++(Qc8 s m.to).1:=by unfold movF;rw[List.flatMap_append];simp
theorem noteL_app(s:Sp)(l:List Qe)(a b:List Int):X6 s l (a++b)=X6 s (X6 s l a) b:=by unfold X6;rw[Un]
open Classical in
theorem rebuild_c {s:Sp} (v:SpW s) {l:List Qe} (hz:l.length<=100000/\∀ x∈l,x.slots.length<=100000) {K:Nat} (Q:K<=80000) (Z:SlK K l) (c:List Inc) (hc:c.length<=9223372036854775806) {ps:List Int} (hn:ps.length<=9223372036854775806) {mv:List Mov} (hm:∀ m∈mv,I64 m.to) (O:mv.length<=9223372036854775806) :
  Zq s l c ps mv=some (RebR s l c ps mv):=by
 refine Gd.eq ?_;unfold Zq RebR;refine .call (valid_c s v) (.ite (λe=>?_) λe=>.some (by rw[if_neg λk=>e (QbD k.1)]));have e:=Q0.1 e;refine .call (sets_c l Oo λx J=>by have:=hz.2 x J;omega) (.ite (λf=>?_) λf=>.some (by rw[if_neg λk=>f (QbD k.2.1)]));have f:=Q0.1 f;have aa:=e.shp.hi;have ab:=cfr_len s.fs c;refine .call (sframes_c Oo hc) ?_;refine .call (drop_c (f.szK Z Q) _ (by rw[Wb];omega)) ?_;have R:=QfA f ((cfr s.fs c).map λ(k:Nat)=>(k:Int));have S:SlK K (Qbu l ((cfr s.fs c).map λ(k:Nat)=>(k:Int))):=λx J=>Z x (QaS.1 J).1;have T:renK s l c ps mv=X6 s (X6 s (Qbu l ((cfr s.fs c).map λ(k:Nat)=>(k:Int))) ps) (movF s mv):=rfl;generalize Qbu l ((cfr s.fs c).map λ(k:Nat)=>(k:Int))=l0 at R S T ⊢;refine Gd.bind (P:=λb:Sp×List Qe×Int=>b.1=s/\Qm b.2.1/\SlK K b.2.1/\((∀ p∈ps,0<=p/\p<s.ws.length)->b.2.1=X6 s l0 ps)/\b.2.2=if ∀ p∈ps,0<=p/\p<s.ws.length then 0 else 1) ?_ λb hb=>?_
 ·exact add_loop e v Q (λx=>x) hn R S λl' A B M=>⟨rfl,A,B,M,rfl⟩
 ·obtain ⟨d,E,F⟩:=b;obtain ⟨rfl,V,W,X,o⟩:=hb;dsimp only at V W X o ⊢;refine Gd.bndR (P:=λz=>(∃ L:List Qe,z = .inl (L,F)/\((∀ p∈ps,0<=p/\p<d.ws.length)->L=X6 d E (movF d mv))/\∀ m∈mv,(Qc8 d m.to).2=0)\/(z = .inr ([],1)/\¬ ∀ m∈mv,(Qc8 d m.to).2=0)) ?_ (λz j=>?_) (λr j=>?_)
  ·refine Gd.for mv.length (λ(t:List Qe) i=>(d,t,F,i)) (λi t=>Qm t/\SlK K t/\t=X6 d E (movF d (mv.take i))/\∀ m∈mv.take i,(Qc8 d m.to).2=0) E rfl (λ_ _=>rfl) O ⟨V,W,rfl,λm h=>absurd h (W3)⟩ (λi C t N=>?_) (λt N=>?_)
   ·obtain ⟨G,H,w,y⟩:=N;have D:=hm _ (Wd C);have U:mv.take (i+1)=mv.take i++[mv[i]]:=Va C;obtain ⟨f1,Y⟩:=flds_rng e v (a:=mv[i].to);refine Gd.bndR (P:=λz=>(z = .inl (d,X6 d t (Qc8 d mv[i].to).1,F)/\(Qc8 d mv[i].to).2=0)\/(z = .inr (.out (.inr ([],1)))/\¬ (Qc8 d mv[i].to).2=0)) ?_ (λz j=>?_) (λr j=>?_)
    ·refine .atN C (.call (slots_c e v D) ?_);refine .ite (λg=>?_) λg=>.some (.inr ⟨rfl,g⟩);refine add_loop e v Q (λx=>Sum.inl x) Oo G H λl' A B M=>?_;rw[if_pos Y,M Y];exact .inl ⟨rfl,g⟩
    ·rcases j with ⟨h,g⟩ | ⟨h,_⟩
     ·injection h with h;subst h;obtain ⟨A,B⟩:=noteL_okK e (Qc8 d mv[i].to).1 G H;refine .some (.inl ⟨X6 d t (Qc8 d mv[i].to).1,rfl,A,B,by rw[U,movF_snoc,noteL_app,<- w],λm u=>?_⟩);rw[U]at u;rcases Wk.1 u with h | h
      ·exact y m h
      ·rw[Wo.1 h];exact g
     ·cases h
    ·rcases j with ⟨h,_⟩ | ⟨h,g⟩
     ·cases h
     ·injection h with h;rw[h];exact .inr ⟨_,rfl,.inr ⟨rfl,λq=>g (q _ (Wd C))⟩⟩
   ·obtain ⟨G,H,w,y⟩:=N;rw[WN]at w y;exact .inl ⟨t,rfl,λ_=>w,y⟩
  ·rcases j with ⟨L,h,h3,I⟩ | ⟨h,_⟩
   ·injection h with h;subst h;dsimp only;by_cases n:∀ p∈ps,0<=p/\p<d.ws.length
    ·rw[if_pos n]at o;subst o;refine .pos rfl (.some ?_);rw[if_pos ⟨e,f,n,I⟩,h3 n,X n,T]
    ·rw[if_neg n]at o;subst o;refine .neg Od (.some ?_);rw[if_neg λk=>n k.2.2.1]
   ·cases h
  ·rcases j with ⟨L,h,_⟩ | ⟨h,I⟩
   ·cases h
   ·injection h with h;rw[h,if_neg λk=>I k.2.2.2]
def cpS(h:Hp)(l:List Inc)(a:EvS)(out:List Int):Sp:=⟨h.space.sh,wrtL a.s.ws (Qaj h.space h.sets l) (out.drop (Jk h.space h.roots l).length),a.s.fs⟩
structure CpX(h:Hp)(BL:List (List Itm))(l:List Inc)(C K:List Itm)(T0 T:Itm)(M:List (Nat×Nat×Nat))(st:EvS)(out:List Int):Prop where
 H:QN h BL
 S:StepB h BL l C K T0
 ctx:EvB h.space C K T0
 new:∃ b,T0=newI h.seq b
 R:EvR h.space C K T0 (stpW h l) st out T M
 ll:l.length<=64
section
variable{h:Hp}{BL:List (List Itm)}{l:List Inc}{C K:List Itm}{T0 T:Itm}{M:List (Nat×Nat×Nat)}{st:EvS}{out:List Int}
theorem CpX.kt(X:CpX h BL l C K T0 T M st out){x:Itm}(a:x∈BL.flatten)(d:x∉C):x∈K:=by
 rcases QfX X.S a d with k | e
 ·exact k
 ·obtain ⟨b,c⟩:=X.new;have:=X.H.sq x a;rw[e,c]at this;dsimp only at this;omega
theorem CpX.lens(X:CpX h BL l C K T0 T M st out):out.length=(Jk h.space h.roots l).length+(Qaj h.space h.sets l).length:=by rw[X.R.len];unfold stpW;rw[We,Wb,Wb]
theorem CpX.stay(X:CpX h BL l C K T0 T M st out){x:Itm}(c:x∈K){k:Nat}(b:k∈x.fr):∃ hl:k<st.s.fs.length,¬ st.s.fs[k].ow = -1:=by have a:=X.R.inv.oth x (Wj _ c);exact ⟨a.ch.lt k b,a.own k b (a.ch.lt k b)⟩
theorem CpX.z(X:CpX h BL l C K T0 T M st out):8<=szS h.space:=X.ctx.z0
theorem CpX.z2(X:CpX h BL l C K T0 T M st out):szS (cpS h l st out)=szS h.space:=rfl
theorem CpX.len2(X:CpX h BL l C K T0 T M st out):(cpS h l st out).ws.length=h.space.ws.length/\(cpS h l st out).fs.length=h.space.fs.length:=⟨(Qah _ _ _).trans X.R.inv.wl,X.R.inv.fl⟩
theorem CpX.ok(X:CpX h BL l C K T0 T M st out):ZO (cpS h l st out)/\SpW (cpS h l st out):=by
 have f:st.s.sh=h.space.sh:=X.R.inv.sh;have b:ZO ⟨st.s.sh,(cpS h l st out).ws,st.s.fs⟩:=by
  refine sp_ws X.R.inv.ok (Qah _ _ _) λk E t a u w e=>?_;have g:∀ q∈Qaj h.space h.sets l,q.toNat≠a:=λq y z=>by obtain ⟨i,_,x,c,m,p,r,d,n,j,B,D,o⟩:=Xw X.H X.S y;have:=(Zz X.H.sp.ok (X.H.sp.each x c) n Oo i o).1;unfold X8 at this;rw[z,show szS h.space=szS st.s from X.R.inv.z.symm,e]at this;obtain ⟨_,s⟩:=X.stay (X.kt c m) this;exact s t
  have:=Qct (Qaj h.space h.sets l) (out.drop (Jk h.space h.roots l).length) st.s.ws a g;exact VB ((Wa w).symm.trans (this.trans (Wa u)))
 refine ⟨by rw[f]at b;exact b,⟨λx c=>?_,X.R.inv.w.2⟩⟩;exact Qfh _ _ _ X.R.inv.w.1 (λv A=>X.R.u v (VT A)) x c
theorem CpX.cf(X:CpX h BL l C K T0 T M st out){k:Nat}:((k:Nat):Int)∈(cfr (cpS h l st out).fs l).map (λ(k:Nat)=>(k:Int))<->∃ c∈C,k∈c.fr:=by rw[mem_nat,mem_cfr];have:=QdO (fs:=st.s.fs) (C:=C) (k:=k) λx a=>X.R.inv.oth x (Wg _ a);rw[X.S.ci]at this;exact this
theorem CpX.noC(X:CpX h BL l C K T0 T M st out){x:Itm}(d:x∈K\/x=T){k:Nat}(f:k∈x.fr):¬ ∃ c∈C,k∈c.fr:=by
 rintro ⟨c,e,b⟩;have a:=X.R.inv.oth c (Wg _ e);rcases d with d | rfl
 ·exact a.disj (X.R.inv.oth x (Wj _ d)) (X.ctx.sqK c e x d) k b f
 ·exact a.disj X.R.inv.inc.toIncC (by rw[X.R.inv.sq.1];exact X.ctx.sqT c (Wg _ e)) k b f
theorem CpX.new_w(X:CpX h BL l C K T0 T M st out){o:Nat×Nat×Nat×Nat}(t:o∈nob T0.i.words.toNat M){k:Nat}(B:k<=o.2.2.1+o.2.2.2) :
  (cpS h l st out).ws[adr (szS h.space) T.fr (o.2.1+k)]?=st.s.ws[adr (szS h.space) T.fr (o.2.1+k)]?/\o.2.1+k<T.fr.length*szS h.space:=by
 have u:=X.z;have a:=QaV X.R.inv;have i:=X9 M _ o t;have c:∀ q∈Qaj h.space h.sets l,q.toNat≠adr (szS h.space) T.fr (o.2.1+k):=λq s e=>by obtain ⟨v,_,y,g,j,m,w,x,d,n,z,A,r⟩:=Xw X.H X.S s;rw[r]at e;have b:=Itm.posOk X.H.sp.ok (X.H.sp.each y g) d;have f:=X.kt g j;exact QdV Oo ((X.R.inv.oth y (Wj _ f)).disj X.R.inv.inc.toIncC (by rw[X.R.inv.sq.1];exact X.ctx.sqT y (Wj _ f))) (p:=m+n) (q:=o.2.1+k) Oo Oo e
 exact ⟨Qct _ _ _ _ c,Oo⟩
theorem CpX.fields(X:CpX h BL l C K T0 T M st out){o:Nat×Nat×Nat×Nat}(g:o∈nob T0.i.words.toNat M) :
  Qc8 (cpS h l st out) ((adr (szS h.space) T.fr o.2.1:Nat):Int)=((List.range o.2.2.1).map λj=>((adr (szS h.space) T.fr (o.2.1+(j+1)):Nat):Int),0):=by
 obtain ⟨x,n,p,q,e⟩:=X.R.inv.src _ (Qdg M _ o g);have b:=Itm.posOk X.ctx.ok (X.ctx.cs x n) q;have i:=(X.new_w g (k:=o.2.2.1+o.2.2.2) Oo).2;have a:Chn (cpS h l st out).fs T.fr:=X.R.inv.inc.ch;have c:Own (cpS h l st out).fs T.fr:=X.R.inv.inc.own;have m:(cpS h l st out).ws[adr (szS (cpS h l st out)) T.fr o.2.1]?=some (hdW o.2.2.1 o.2.2.2):=by have:=(X.new_w g (k:=0) Oo).1;rw[Vy]at this;exact this.trans (X.R.inv.hd o g)
 have f:=(Qer X.ok.1 a c (p:=o.2.1) (r:=o.2.2.1) (d:=o.2.2.2) (by rw[X.z2];omega) b.2.1 b.2.2.1 m).1;rw[X.z2]at f;unfold Qc8;rw[f,if_pos rfl];refine congrArg (λl=>(l,(0:Int))) ?_;unfold fldL;rw[Wc];refine W8 λj s=>?_;rw[WE]at s;have:=go_k (k:=j+1) X.ok.1.shp a c (p:=o.2.1) (by rw[X.z2];omega);rw[X.z2]at this;rw[show (1+(j:Int))=((j+1:Nat):Int) by omega,this]
theorem CpX.mv(X:CpX h BL l C K T0 T M st out){m:Mov}(a:m∈st.mv):∃ o∈nob T0.i.words.toNat M,m=⟨(o.1:Int),((adr (szS h.space) T.fr o.2.1:Nat):Int)⟩:=by rw[X.R.inv.mv]at a;obtain ⟨o,b,e⟩:=Wl.1 a;exact ⟨o,b,e.symm⟩
theorem CpX.movF(X:CpX h BL l C K T0 T M st out){q:Int}(a:q∈Go.Proofs.YthadnbdbfpggdaaGreatDoor.movF (cpS h l st out) st.mv):∃ o∈nob T0.i.words.toNat M,∃ k,1<=k/\k<=o.2.2.1/\q=((adr (szS h.space) T.fr (o.2.1+k):Nat):Int):=by unfold Go.Proofs.YthadnbdbfpggdaaGreatDoor.movF at a;rw[Uk]at a;obtain ⟨m,c,a⟩:=a;obtain ⟨o,b,rfl⟩:=X.mv c;rw[X.fields b]at a;obtain ⟨j,d,rfl⟩:=Wl.1 a;rw[WE]at d;exact ⟨o,b,j+1,Oo,Oo,rfl⟩
theorem CpX.slot_rng(X:CpX h BL l C K T0 T M st out){q:Int}(f:q∈Qaj h.space h.sets l):0<=q/\q<(cpS h l st out).ws.length:=by obtain ⟨a,_,x,b,g,p,r,d,c,j,i,k,e⟩:=Xw X.H X.S f;have:=(Zz X.H.sp.ok (X.H.sp.each x b) c Oo a e).2;exact ⟨a,by rw[X.len2.1];exact this⟩
theorem CpX.slot_w(X:CpX h BL l C K T0 T M st out){q:Int}(a:q∈Qaj h.space h.sets l):ImgP h.space C st.mv (wAt h.space q) (wAt (cpS h l st out) q):=by
 obtain ⟨j,d⟩:=WW.1 a;obtain ⟨n,o⟩:=Wm.1 d;have b:=X.lens;have e:∀ q∈Qaj h.space h.sets l,0<=q:=λq a=>(X.slot_rng a).1;have f:(out.drop (Jk h.space h.roots l).length)[j]?=some (out[(Jk h.space h.roots l).length+j]' Oo):=by rw[WT,Wa Oo]
 have c:=wrtL_at (Qaj h.space h.sets l) (out.drop (Jk h.space h.roots l).length) st.s.ws (ent_idx (entL_asc _ _ _) e) (by rw[Wu];omega) (λq a=>by
  have g:=X.slot_rng a
  rw[X.len2.1]at g
  rw[X.R.inv.wl];omega) j _ _ d f
 have i:=e q a;have k:wAt (cpS h l st out) q=out[(Jk h.space h.roots l).length+j]' Oo:=by have m:(cpS h l st out).ws[q.toNat]?=_:=c;have:=Z6 m;rwa [show ((q.toNat:Nat):Int)=q by omega]at this
 rw[k];refine X.R.img ((Jk h.space h.roots l).length+j) _ _ ?_ (Wa Oo);unfold stpW;rw[WA (by rw[Wb];omega),Wb,Ua,Wi,d];rfl
theorem CpX.fld_w(X:CpX h BL l C K T0 T M st out){o:Nat×Nat×Nat×Nat}(d:o∈nob T0.i.words.toNat M){k:Nat}(j:1<=k)(i:k<=o.2.2.1):∃ w,ImgP h.space C st.mv w (wAt (cpS h l st out) ((adr (szS h.space) T.fr (o.2.1+k):Nat):Int)):=by obtain ⟨n,c⟩:=WW.1 d;have a:=(Wm.1 c).1;rw[Qb1]at a;have b:=X.R.inv.ref n o c k j i;rw[if_pos (.inl a)]at b;obtain ⟨w,v,_,f,g⟩:=b;have e:=(X.new_w d (k:=k) Oo).1.trans f;rw[Z6 e];exact ⟨w,g⟩
theorem CpX.tfr(X:CpX h BL l C K T0 T M st out){p:Nat}(a:p<T.fr.length*szS h.space):X8 (cpS h l st out) ((adr (szS h.space) T.fr p:Nat):Int)∈T.fr:=by have b:=X.z;unfold X8;rw[Wc];exact adr_fr Oo a
theorem CpX.img(X:CpX h BL l C K T0 T M st out){w v:Int}(j:ImgP h.space C st.mv w v)(a:¬ v=0/\v<=(cpS h l st out).ws.length):¬ ∃ c∈C,X8 (cpS h l st out) (v-1)∈c.fr:=by
 rcases j with ⟨f,rfl⟩ | ⟨_,m,g,_,rfl⟩
 ·rintro ⟨c,b,d⟩;refine f ⟨⟨a.1,by rw[<- X.len2.1];exact a.2⟩,?_⟩;exact (QdO λx i=>(X.ctx.cs x i).inc.toIncC).2 ⟨c,b,d⟩
 ·obtain ⟨o,e,rfl⟩:=X.mv g;dsimp only;rw[Int.add_sub_cancel];have:=(X.new_w e (k:=0) Oo).2;exact X.noC (.inr rfl) (X.tfr (p:=o.2.1) Oo)
theorem CpX.known(X:CpX h BL l C K T0 T M st out){q:Int}(hq:q∈Qaj h.space h.sets l\/q∈Go.Proofs.YthadnbdbfpggdaaGreatDoor.movF (cpS h l st out) st.mv)(g:Qbc (cpS h l st out) q (wAt (cpS h l st out) q)) :
  (¬ ∃ c∈C,X8 (cpS h l st out) q∈c.fr)/\¬ ∃ c∈C,X8 (cpS h l st out) (wAt (cpS h l st out) q-1)∈c.fr:=by
 have b:¬ wAt (cpS h l st out) q=0/\wAt (cpS h l st out) q<=(cpS h l st out).ws.length:=⟨g.1.1,g.1.2.1⟩;rcases hq with hq | hq
 ·refine ⟨?_,X.img (X.slot_w hq) b⟩;obtain ⟨i,_,x,e,a,p,r,d,m,j,v,y,n⟩:=Xw X.H X.S hq;have:=(Zz X.H.sp.ok (X.H.sp.each x e) m Oo i n).1;exact X.noC (.inl (X.kt e a)) this
 ·obtain ⟨o,f,k,s,t,rfl⟩:=X.movF hq;obtain ⟨w,u⟩:=X.fld_w f s t;exact ⟨X.noC (.inr rfl) (X.tfr (X.new_w f (k:=k) Oo).2),X.img u b⟩
end
def CopR(r:Hp×List Inc×List Int×Sp×List Mov×Qb):Prop:=Xy r.2.2.2.2.2/\∃ BL,QN r.1 BL /\ ((r.2.1=[]/\r.2.2.1=[]/\r.2.2.2.1=r.1.space/\r.2.2.2.2.1=[]) \/ ∃ C K T0 T M st out,CpX r.1 BL r.2.1 C K T0 T M st out/\r.2.2.1=Qaj r.1.space r.1.sets r.2.1/\r.2.2.2.1=cpS r.1 r.2.1 st out/\r.2.2.2.2.1=st.mv)
theorem copied_c{d:Qb}(hd:Xy d):Gd CopR (Jg d):=by
 unfold Jg;refine .bind (heap_g hd) λr1 aa=>?_;obtain ⟨c,Q⟩:=aa;obtain ⟨f,H⟩:=Q.inv;have D:=Q.dck;have V:=Q.seq;generalize r1.1=h at H V ⊢;generalize r1.2.2=d1 at D ⊢;clear Q;obtain ⟨z1,z2,z3,z4,z5⟩:=H.small;have u:=H.sp.ok;have ad:=H.count;refine .call (all15_c H.bsz) ?_;rw[H.flat];have n:(f.flatten.map Itm.i).length=f.flatten.length:=Wb ..;have E:w64 (((f.flatten.map Itm.i).length:Int)+1)=((f.flatten.length+1:Nat):Int):=by rw[n,Qd Oo];rfl
 rw[E];refine .bind (Q9 D Oo) λr2 h2=>?_;obtain ⟨v,d2⟩:=r2;obtain ⟨⟨v0,v1⟩,L⟩:=h2;dsimp only at v0 v1 L ⊢;obtain ⟨m,rfl⟩:∃ m:Nat,v=(m:Int):=⟨v.toNat,Oo⟩;refine .pos ⟨Oo,Oo,by rw[n];omega⟩ ?_;have el:((f.flatten.map Itm.i).take (Int.toNat (m:Int))).drop (Int.toNat 0)=(f.flatten.take m).map Itm.i:=by rw[Wc,UK];rfl
 rw[el];generalize hC:f.flatten.take m=C;generalize hK:f.flatten.drop m=K;have F:∀ x∈C,x∈f.flatten:=λx z=>by rw[<- hC]at z;exact VJ z
 have w:C++K=f.flatten:=by rw[<- hC,<- hK];exact Vu m _
 have y:=H.sp.seqs;rw[<- w,Vd]at y;have G:(C.map Itm.i).length<=64:=by rw[Wb,<- hC,Wf];omega
 generalize hl:C.map Itm.i=l at G;have ab:=ent_len H (l:=l);have ac:=hdl_len H (l:=l);refine .call (Qgf u H.sp.w H.sok H.sin l Oo) ?_;dsimp only;refine Gd.bind (P:=λb=>b=(Jk h.space h.roots l).map (Qz h.roots)) ?_ λb B=>?_
 ·refine .call (Qf9 u H.rts l Oo) ?_;refine Gd.for ((Jk h.space h.roots l).map λi=>((i+1:Nat):Int)).length (λ(t:List Int) i=>(t,i)) (λi t=>t=((Jk h.space h.roots l).take i).map (Qz h.roots)) [] rfl (λ_ _=>rfl) (by rw[Wb];omega) Os (λi g t a=>?_) (λt a=>?_)
  ·rw[Wb]at g;have W:=(Qeu (Wd g)).1;have I:(Jk h.space h.roots l)[i]<h.roots.refs.length:=by have:=(Wm.1 (Z8.1 W)).1;omega
   have k:t.length<=1000000:=by rw[a,Wb,Wf];omega
   refine .atN (by rw[Wb];exact g) ?_;rw[Vq];have E:w64 ((((Jk h.space h.roots l)[i]+1:Nat):Int)-1)=(((Jk h.space h.roots l)[i]:Nat):Int):=by rw[Qd Oo];omega
   rw[E];refine .atN I (.pos (Xd (l:=t) k Oo) (.some (.inl ⟨_,rfl,?_⟩)));rw[Qy g,WM,a];unfold Qz;rw[Uy,Wa I];rfl
  ·rw[Wb,WN]at a;rw[a]
 subst B;have hS:∀ b:Int,0<=b->b<h.config.rules.length->StepB h f l C K (newI h.seq b):=λb U b1=>by
  refine ⟨hl,F,λx=>?_,.inr ⟨b,rfl⟩,⟨U,b1⟩⟩;constructor
  ·intro z;have J:x∈f.flatten:=by rw[<- w];exact Wj _ z
   refine ⟨J,λhc=>y.2.2 x hc x z rfl,λe=>?_⟩;have:=H.sq x J;rw[e]at this;dsimp only at this;omega
  ·rintro ⟨h1,h2,_⟩;rw[<- w]at h1;exact (Wk.1 h1).resolve_left h2
 have o:∀ q∈Qaj h.space h.sets l,0<=q/\q<h.space.ws.length:=λq hq=>by
  have B:0<h.config.rules.length:=by have:=H.cfg.len;omega
  obtain ⟨q0,_,x,z,hn,p,r,d,hp,j,j1,j2,e2⟩:=Xw H (hS 0 Oo Oo) hq;exact ⟨q0,(Zz u (H.sp.each x z) hp Oo q0 e2).2⟩
 refine Gd.bind (P:=λb=>b=stpW h l) ?_ λb B=>?_
 ·refine Gd.for (Qaj h.space h.sets l).length (λ(t:List Int) i=>(t,i)) (λi t=>t=(Jk h.space h.roots l).map (Qz h.roots)++((Qaj h.space h.sets l).take i).map (wAt h.space)) _ rfl (λ_ _=>rfl) Oo Os (λi g t a=>?_) (λt a=>?_)
  ·have O:=o _ (Wd g);have k:t.length<=1000000:=by rw[a,We,Wb,Wb,Wf];omega
   refine .atN (l:=Qaj h.space h.sets l) g (.at (i:=(Qaj h.space h.sets l)[i]) O.1 Oo (.pos (Xd (l:=t) k Oo) (.some (.inl ⟨_,rfl,?_⟩))));rw[Qy g,WM,<- WH,<- a,Uy,Qcu O.1 Oo]
  ·rw[WN]at a;exact a
 subst B;refine .call (copy_c Oo Oo) ?_;have ae:h.belts.length=h.config.rules.length:=by rw[H.bl,Wb,H.bn]
 have af:=H.cfg.len;refine .bind (Q9 L Oo) λr3 h3=>?_;obtain ⟨b,d3⟩:=r3;obtain ⟨⟨U,b1⟩,A⟩:=h3;dsimp only at U b1 A ⊢;have S:=hS b U Oo;have Y:(l.map Inc.seq).Nodup:=by rw[<- hl,W9,Vc,Vp];exact y.1
 have hB:=step_ctxB H S Y Oo Oo;obtain ⟨w1,w2⟩:=stpW_ok H S;have s:=run_x hB w1 w2;rw[hl]at s;refine .bind s λr hr=>?_;obtain ⟨k1,k2,k3⟩:=hr;refine .pos k1 (.pos k2 (.ite (λhe=>?_) λhe=>.some ⟨A,f,H,.inl ⟨rfl,rfl,rfl,rfl⟩⟩));obtain ⟨N,T,M,e,R⟩:=k3 he;generalize r.2.2.1=out at e R;subst e;have X:CpX h f l C K (newI h.seq b) T M N out:=⟨H,S,hB,⟨b,rfl⟩,R,G⟩;have Z:=X.lens;refine Gd.bind (P:=λb=>b=(cpS h l N out).ws) ?_ λb B=>?_
 ·refine Gd.for (Qaj h.space h.sets l).length (λ(t:List Int) i=>(t,i)) (λi t=>t=wrtL N.s.ws ((Qaj h.space h.sets l).take i) ((out.drop (Jk h.space h.roots l).length).take i)) N.s.ws rfl (λ_ _=>rfl) Oo (by simp[wrtL]) (λi g t a=>?_) (λt a=>?_)
  ·have O:=o _ (Wd g);have k:t.length=h.space.ws.length:=by rw[a,Qah];exact R.inv.wl
   refine .atN g ?_;have E:w64 ((((Jk h.space h.roots l).map (Qz h.roots)).length:Int)+(i:Int))=(((Jk h.space h.roots l).length+i:Nat):Int):=by rw[Wb,Qd Oo];push_cast;rfl
   dsimp only;rw[E];refine .atN (l:=out) Oo (.at O.1 Oo (.some (.inl ⟨_,rfl,?_⟩)));rw[Qy g,Qy (l:=out.drop (Jk h.space h.roots l).length) (by rw[Wu];omega),QdI _ _ _ _ _ (by rw[Wf,Wf,Wu];omega),<- a,UH]
  ·rw[WN,WC (by rw[Wu];omega)]at a;exact a
 subst B;exact .some ⟨A,f,H,.inr ⟨C,K,_,T,M,N,out,X,rfl,rfl,rfl⟩⟩
def awR:Sp:=⟨3,List.replicate 24 0,[⟨5,5,-1⟩,⟨-1,-1,-1⟩,⟨-1,-1,-1⟩]⟩
theorem awR_ok:ZO awR:=by
 have d:∀ i (h:i<awR.fs.length),awR.fs[i].nx = -1:=λi h=>by
  have h:i<3:=h;match i,h with
  | 0,_=>rfl
  | 1,_=>rfl
  | 2,_=>rfl
 refine ⟨⟨by unfold QcH;exact ⟨Od,Od⟩,Od,Od,rfl⟩,λi h=>?_,λi j b g _ _ _=>d i b,λi b=>?_⟩
 ·have f:i<3:=h;match i,f with
  | 0,_=>exact .inr (show QeY awR 0 ⟨5,5,-1⟩ from ⟨⟨Od,Od,0,Od,Od,Od⟩,Od,Od,Od,λj g e=>by have e:(-1:Int)=j:=e;omega⟩)
  | 1,_=>exact .inl ⟨rfl,rfl,rfl,λa c _ _=>Um (show awR.ws[a]∈List.replicate 24 (0:Int) from Wd c)⟩
  | 2,_=>exact .inl ⟨rfl,rfl,rfl,λa c _ _=>Um (show awR.ws[a]∈List.replicate 24 (0:Int) from Wd c)⟩
 ·rw[Qb4 b,d i b];exact X7 _ rfl
theorem awR_w:SpW awR:=by
 refine ⟨λx b=>?_,λf a=>?_⟩
 ·have:=Um (show x∈List.replicate 24 (0:Int) from b);subst this;unfold U64;omega
 ·have a:f∈[(⟨5,5,-1⟩:Fe),⟨-1,-1,-1⟩,⟨-1,-1,-1⟩]:=a;simp only[Ww,W3,or_false]at a;unfold I64;rcases a with rfl | rfl | rfl <;> decide
def awL:List Qe:=[⟨0,1,[3]⟩,⟨1,2,[9]⟩]
theorem awL_ok:Qm awL:=by
 refine ⟨λx c=>?_,λi h=>?_⟩
 ·have c:x∈[(⟨0,1,[3]⟩:Qe),⟨1,2,[9]⟩]:=c;simp only[Ww,W3,or_false]at c;have b:∀ a:Int,Asc [a]:=λa=>Asc.pw.2 (UP _ _);rcases c with rfl | rfl
  ·exact ⟨Od,Od,Od,λ_=>(show (0:Int)<=3 by decide),b _⟩
  ·exact ⟨Od,Od,Od,λ_=>(show (0:Int)<=9 by decide),b _⟩
 ·have h:i+1<2:=h;obtain rfl:i=0:=by omega
  exact .inl (show (0:Int)<1 by decide)
theorem slk_in{l:List Qe}(h:ZC l):SlK 0 l:=λx a=>by
 have:x.slots.filter bigQ=[]:=Ut.2 λq b=>by have:=h x a q b;unfold bigQ;simp;omega
 rw[this];exact Wn _
theorem reb_ok{s:Sp}(d:ZO s)(D:SpW s){l:List Qe}(g:Qm l)(e:ZC l){c:List Inc}(C:c.length<=9223372036854775806){ps:List Int}(B:∀ p∈ps,0<=p/\p<s.ws.length)(A:ps.length<=9223372036854775806){mv:List Mov}(i:∀ m∈mv,I64 m.to/\(Qc8 s m.to).2=0)(b:mv.length<=9223372036854775806) :
  Zq s l c ps mv=some (renK s l c ps mv,0)/\Qm (renK s l c ps mv)/\ZC (renK s l c ps mv)/\∀ f t q,InS (renK s l c ps mv) f t q <->
   (InS l f t q/\¬ f∈(cfr s.fs c).map (λ(k:Nat)=>(k:Int))/\¬ t∈(cfr s.fs c).map (λ(k:Nat)=>(k:Int)))\/((q∈ps\/q∈movF s mv)/\Qbc s q (wAt s q)/\f=X8 s q/\t=X8 s (wAt s q-1)):=by
 have a:=g.sz e;refine ⟨?_,?_⟩
 ·rw[rebuild_c D a (K:=0) Oo (slk_in e) c C A (λm h=>(i m h).1) b];unfold RebR;rw[if_pos ⟨d,g,B,λm h=>(i m h).2⟩]
 ·have j:=QfA g ((cfr s.fs c).map λ(k:Nat)=>(k:Int));have n:ZC (Qbu l ((cfr s.fs c).map λ(k:Nat)=>(k:Int))):=λx z=>e x (QaS.1 z).1;obtain ⟨o,r,u⟩:=Qb0 d ps j n;obtain ⟨v,w,y⟩:=Qb0 d (movF s mv) o r;refine ⟨v,w,λf t q=>(y f t q).trans ?_⟩;rw[u,InS_drop];constructor
  ·rintro ((k | ⟨k,k2⟩) | ⟨k,k2⟩)
   ·exact .inl k
   ·exact .inr ⟨.inl k,k2⟩
   ·exact .inr ⟨.inr k,k2⟩
  ·rintro (k | ⟨k | k,k2⟩)
   ·exact .inl (.inl k)
   ·exact .inl (.inr ⟨k,k2⟩)
   ·exact .inr ⟨k,k2⟩
theorem awake24_c:J3=some true:=by
 refine Gd.eq ?_;unfold J3;refine .call (new_spec (k:=3) (n:=3) (by unfold QcH;omega) Oo) ?_;have e:(Sp.mk (newS 3 (3:Int).toNat).sh (newS 3 (3:Int).toNat).ws ((newS 3 (3:Int).toNat).fs.set (Int.toNat 0) (Fe.mk 5 5 (-1))))=awR:=rfl;dsimp only;refine .at0 Od ?_;rw[e];have b:ZC awL:=λx a y f=>by
  have a:x∈[(⟨0,1,[3]⟩:Qe),⟨1,2,[9]⟩]:=a;simp only[Ww,W3,or_false]at a;rcases a with rfl | rfl
  ·rw[Wo.1 f];decide
  ·rw[Wo.1 f];decide
 obtain ⟨d,_⟩:=reb_ok awR_ok awR_w awL_ok b (c:=[Inc.mk 5 0 0 0 0]) Od (ps:=[]) (λp h=>absurd h (W3)) Od (mv:=[]) (λp h=>absurd h (W3)) Od;have g:renK awR awL [Inc.mk 5 0 0 0 0] [] []=[⟨1,2,[9]⟩]:=rfl;rw[g]at d;refine .call d (.pos rfl (.pos rfl (.at0 Od (.some ?_))));rfl
structure CpF(h:Hp)(l:List Inc)(ps:List Int)(s:Sp)(mv:List Mov):Prop where
 ok:ZO s
 w:SpW s
 ll:l.length<=64
 pr:∀ p∈ps,0<=p/\p<s.ws.length
 pl:ps.length<=16384
 mt:∀ m∈mv,I64 m.to/\(Qc8 s m.to).2=0
 ml:mv.length<=16384
 kn:∀ q,q∈ps\/q∈movF s mv->Qbc s q (wAt s q)->¬ (X8 s q:Int)∈(cfr s.fs l).map (λ(k:Nat)=>(k:Int))/\¬ (X8 s (wAt s q-1):Int)∈(cfr s.fs l).map (λ(k:Nat)=>(k:Int))
theorem CopR.f{r:Hp×List Inc×List Int×Sp×List Mov×Qb}(h:CopR r):Xy r.2.2.2.2.2/\∃ BL,QN r.1 BL/\CpF r.1 r.2.1 r.2.2.1 r.2.2.2.1 r.2.2.2.2.1:=by
 obtain ⟨f,BL,H,k⟩:=h;refine ⟨f,BL,H,?_⟩;rcases k with ⟨j,a,b,c⟩ | ⟨C,K,y,T,M,z,n,X,a,b,c⟩
 ·rw[j,a,b,c];refine ⟨H.sp.ok,H.sp.w,Os,λp h=>absurd h (W3),Os,λp h=>absurd h (W3),Os,λq hq=>?_⟩;rcases hq with hq | hq
  ·exact absurd hq (W3)
  ·unfold movF at hq;simp at hq
 ·rw[a,b,c];generalize r.2.1=l at *;generalize r.1=h at *;obtain ⟨w,x⟩:=ev_len X.ctx X.R.inv;refine ⟨X.ok.1,X.ok.2,X.ll,λp s=>X.slot_rng s,ent_len H,λm t=>?_,Oo,λq hq u=>?_⟩
  ·obtain ⟨o,d,rfl⟩:=X.mv t;have e:=QdS X.R.inv (X.new_w d (k:=0) Oo).2;have v:=Xv X.R.inv.ok;refine ⟨by unfold I64;dsimp only;rw[Vy]at e;omega,by dsimp only;rw[X.fields d]⟩
  ·obtain ⟨g,i⟩:=X.known hq u;exact ⟨λh=>g (X.cf.1 h),λh=>i (X.cf.1 h)⟩
theorem mk_deck{l:List Int}(h:∀ x∈l,I64 x)(a:l.length<=9223372036854775807):∃ d,Qc9 l=some d/\Xy d:=⟨⟨l,0⟩,rfl,h,by show (0:Int)<=0;omega,a⟩
theorem QgR{l:List Int}(Q:∀ x∈l,I64 x)(R:l.length<=9223372036854775807):QgN l=some true:=by
 obtain ⟨d,I,J⟩:=mk_deck Q R;refine Gd.eq ?_;unfold QgN;refine .call I (.bind (copied_c J) λr n=>?_);obtain ⟨_,S,H,F⟩:=n.f;generalize r.1=h at H F ⊢;generalize r.2.1=c at F ⊢;generalize r.2.2.1=ps at F ⊢;generalize r.2.2.2.1=s at F ⊢;generalize r.2.2.2.2.1=mv at F ⊢;have A:=F.ll;have B:=F.pl;have C:=F.ml;obtain ⟨u,o,v,w⟩:=reb_ok F.ok F.w H.sok H.sin (c:=c) Oo F.pr Oo F.mt Oo;generalize renK s h.sets c ps mv=L at u o v w;have a:=o.sz v;have D:=F.ok.shp.hi;have E:=cfr_len s.fs c;have q:∀ x∈L,¬ x.frm∈(cfr s.fs c).map (λ(k:Nat)=>(k:Int))/\¬ x.to∈(cfr s.fs c).map (λ(k:Nat)=>(k:Int)):=λx p=>by
  have G:=(o.1 x p).2.2.1;have m:=(w x.frm x.to x.slots[0]).1 ⟨x,p,rfl,rfl,Wd G⟩;rcases m with m | ⟨m,t,N,O⟩
  ·exact m.2
  ·rw[N,O];exact F.kn _ m t
 refine .call u (.pos rfl ?_);refine .call (rsets_c L (by have:=a.1;omega) λx p=>by have:=a.2 x p;omega) (.pos (QbD o) ?_);refine Gd.bndR (P:=λr=>r = .inl ()) ?_ (λb _=>.call awake24_c (.some rfl)) (λr n=>by cases n);refine .call (frames22_c s c Oo Oo) ?_;dsimp only;refine Gd.for ((cfr s.fs c).map λ(k:Nat)=>(k:Int)).length (λ(_:Unit) i=>i) (λ_ _=>True) () rfl (λ_ _=>rfl) (by rw[Wb];omega) trivial (λi y _ _=>?_) (λ_ _=>rfl);refine Gd.bndR (P:=λr=>r = .inl ()) ?_ (λb _=>.some (.inl ⟨(),rfl,trivial⟩)) (λr n=>by cases n);refine .atN y ?_;have g:=Wd y;generalize ((cfr s.fs c).map λ(k:Nat)=>(k:Int))[i]=f at g;refine Gd.for L.length (λ(_:Unit) i=>i) (λ_ _=>True) () rfl (λ_ _=>rfl) (by have:=a.1;omega) trivial (λj z _ _=>?_) (λ_ _=>rfl);obtain ⟨K,M⟩:=q _ (Wd z);exact .atN z (.neg (λe=>K (e▸g)) (.neg (λe=>M (e▸g)) (.some (.inl ⟨(),rfl,trivial⟩))))
open Go.RowKit Go.ChangeShapes Go.WideShapes Go.Deep
theorem op_int:OpD Tryz.prog 3 iC I64:=OpD.i64 Tryz.underlying3
theorem op_ints:OpD Tryz.prog 28 (lC iC) λxs=>(∀ x∈xs,I64 x)/\xs.length<=9223372036854775807:=OpD.slice (sz:=1) Tryz.underlying28 Ok Od (λ_=>rfl) op_int
theorem rebuildKnows_dc(l:List Int)(a:(∀ x∈l,I64 x)/\l.length<=9223372036854775807):DCall Tryz.prog 5 [.sl (l.map iC)] [] (DB true) []:=QgQ ⟨QgR a.1 a.2⟩
end Go.Proofs.YthadnbdbfpggdaaGreatDoor
