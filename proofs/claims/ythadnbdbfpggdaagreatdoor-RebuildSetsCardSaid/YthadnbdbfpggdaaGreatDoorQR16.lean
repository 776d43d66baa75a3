/- Parts of the proof. No condition. -/
import Derived.Test.YthadnbdbfpggdaaGreatDoorQR0
import Derived.Test.YthadnbdbfpggdaaGreatDoorQR15
import Derived.SizedLaws
noncomputable section
namespace Go.Proofs.YthadnbdbfpggdaaGreatDoor
open Go.RowKit
set_option linter.unusedSimpArgs false
set_option linter.unusedVariables false
theorem QQ.cnt{h:Hp}{a:List (List Itm)}(H:QQ h a)(s:Int)(t:Sts)(b:Bool):QQ ⟨h.config,h.space,h.belts,h.seq,h.sets,h.roots,s,t,b⟩ a:=H.of rfl rfl rfl rfl rfl rfl
theorem rnd_ok{h:Hp}{a:List (List Itm)}(H:QQ h a)(c:h.seq+256<=4294967294)(n:Int) :
  ∃ h1 BL1 m k1,Stps h a m h1 BL1/\m<=Qfp (a.map List.length)/\QeD h1 BL1 k1/\StopP h1 n k1 (Qd5 n 300 h ⟨0,false,0⟩):=by have b:=rndS_256 H;have:=rnd_steps (n:=n) 300 H (cur_0 H) (by rw[nuR_0];omega) (by rw[nuR_0];omega);rw[nuR_0]at this;exact this
theorem rnd_inv{h:Hp}{g:List (List Itm)}(H:QQ h g)(i:h.seq+256<=4294967294)(n:Int) :
  (∃ BL1,QQ (Qd5 n 300 h ⟨0,false,0⟩).1 BL1)/\(Qd5 n 300 h ⟨0,false,0⟩).1.config=h.config/\(Qd5 n 300 h ⟨0,false,0⟩).1.dead=h.dead/\h.seq<=(Qd5 n 300 h ⟨0,false,0⟩).1.seq/\(Qd5 n 300 h ⟨0,false,0⟩).1.seq<=h.seq+256:=by
 have b:=rndS_256 H;obtain ⟨d,BL1,m,j,s,k,a,f⟩:=rnd_ok H i n;have c:=s.inv H;have a:=s.keep;rcases f with ⟨e,_⟩ | ⟨e,_⟩
 ·rw[e];exact ⟨⟨BL1,c⟩,a.1,a.2.1,a.2.2.2.1,by have:=a.2.2.2.2.1;show d.seq<=_;omega⟩
 ·rw[e];exact ⟨⟨BL1,c.cnt _ _ _⟩,a.1,a.2.1,a.2.2.2.1,by have:=a.2.2.2.2.1;show d.seq<=_;omega⟩
theorem for_c{h:Hp}{e:List (List Itm)}(H:QQ h e)(a:h.seq+256<=4294967294){n:Int}(b:1<=n/\n<=1000):QcA h n=some ((Qd5 n 300 h ⟨0,false,0⟩).1,!decide ((XE (Qd5 n 300 h ⟨0,false,0⟩).1 n).1=3)):=by obtain ⟨⟨c,d⟩,_⟩:=rnd_inv H a n;unfold QcA;rw[round_c H (.inr b) a];simp only[WB];rw[wants_c d b];rfl
def cntH(h:Hp)(s:Int):Hp:=⟨h.config,h.space,h.belts,h.seq,h.sets,h.roots,s,⟨h.stats.allocated,h.stats.objects,w64 (h.stats.collections+1),h.stats.steps,h.stats.rounds,h.stats.condemned,h.stats.copied,h.stats.entries,h.stats.work⟩,h.dead⟩
def sncR(h:Hp):Int:=open Classical in if CplP h.config then w64 (h.since+1) else h.since
def QcP(h:Hp)(n:Int):Hp:=open Classical in if CplP h.config/\h.config.full<=sncR h then(Qd5 0 300 (cntH h (sncR h)) ⟨0,false,0⟩).1 else(Qd5 n 300 (cntH h (sncR h)) ⟨0,false,0⟩).1
theorem col_ok{h:Hp}{b:List (List Itm)}(H:QQ h b)(c:h.seq+256<=4294967294)(n:Int) :
  (∃ BL1,QQ (QcP h n) BL1)/\(QcP h n).config=h.config/\(QcP h n).dead=h.dead/\h.seq<=(QcP h n).seq/\(QcP h n).seq<=h.seq+256:=by
 have a:QQ (cntH h (sncR h)) b:=H.cnt _ _ _;unfold QcP;split
 ·exact rnd_inv a c 0
 ·exact rnd_inv a c n
def ddH(h:Hp):Hp:=⟨h.config,h.space,h.belts,h.seq,h.sets,h.roots,h.since,h.stats,true⟩
def Qel(h:Hp)(r d:Int):Hp×Int×Int := if h.dead=true then(hp0,0,19) else if (Qet r d).2=0 then(if (XE h (1+r+d)).1=3 then(if (XE (QcP h (1+r+d)) (1+r+d)).1=3 then(ddH (QcP h (1+r+d)),0,18) else(QfW (QcP h (1+r+d)) (XE (QcP h (1+r+d)) (1+r+d)).1 (XE (QcP h (1+r+d)) (1+r+d)).2 r d,Qgv (QcP h (1+r+d)) (XE (QcP h (1+r+d)) (1+r+d)).2 r d,0)) else(QfW h (XE h (1+r+d)).1 (XE h (1+r+d)).2 r d,Qgv h (XE h (1+r+d)).2 r d,0)) else(hp0,0,(Qet r d).2)
abbrev AlcT:=ByteArray×List Rul×Int×Int×List Int×List Fe×List (List Inc)×Int×List Qe×List Bool×List Int×Int×Int×Int×Int×Int×Int×Int×Int×Int×Int×Bool×Int×Inc
def mkA(h:Hp)(k:Int)(i:Inc):AlcT:=(h.config.name,h.config.rules,h.config.full,h.space.sh,h.space.ws,h.space.fs,h.belts,h.seq,h.sets,h.roots.used,h.roots.refs,h.since,h.stats.allocated,h.stats.objects,h.stats.collections,h.stats.steps,h.stats.rounds,h.stats.condemned,h.stats.copied,h.stats.entries,h.stats.work,h.dead,k,i)
section
variable{h:Hp}{BL:List (List Itm)}{kind:Int}{x:Itm}{r d:Nat}
theorem XH.grow(X:XH h BL kind x r d):XZ h.space x.i ((1+r+d:Nat):Int)=some (grw h.space x.i ((1+r+d:Nat):Int),Qgv h x.i r d,0,Zo h.space x.i ((1+r+d:Nat):Int)):=by rw[QgM X.H.sp.ok X.it.inc ⟨Oo,by have:=X.r15;have:=X.d32;omega⟩,if_pos X.room,X.ats];rfl
theorem XH.hd(X:XH h BL kind x r d):QeG (r:Int) d:=by have:=X.r15;have:=X.d32;unfold QeG;omega
theorem XH.make(X:XH h BL kind x r d):JS ⟨h.space.sh,h.space.ws,Zo h.space x.i ((1+r+d:Nat):Int)⟩ (Qgv h x.i r d) r d=some (0,(putS h x.i r d).ws):=by
 have g:=X.room';have a:=X.gk;have c:=(go_adr a.sp.shp a.inc.toIncC.ch a.inc.toIncC.own (p:=x.i.words.toNat) (k:=r+d) (by show _<(QaW h x r d).fr.length*szS h.space;omega)).trans (if_pos (show x.i.words.toNat+(r+d)<(QaW h x r d).fr.length*szS h.space by omega));have b:=QaJ X.own.1.shp X.own.2.2.inc.ch.lt (p:=x.i.words.toNat) (by rw[X.z];omega);have e:=X.own.1.shp.small;have f:MkE ⟨h.space.sh,h.space.ws,Zo h.space x.i ((1+r+d:Nat):Int)⟩ (Qgv h x.i r d) r d=0:=by unfold MkE;rw[if_pos X.hd,X.ats,show ((r:Int)+d)=((r+d:Nat):Int) by push_cast;rfl];exact congrArg Prod.snd c
 rw[make_c a.sp.shp a.sp.nxIn (by rw[X.ats];rw[X.z]at b;unfold I64;omega),if_pos f];unfold putS;rw[X.cast]
theorem XH.add(X:XH h BL kind x r d)(e:kind=2):XY h.belts (grw h.space x.i ((1+r+d:Nat):Int))=some (addB h.belts (grw h.space x.i ((1+r+d:Nat):Int)),0):=by
 have b:=X.i;have g:=X.H.b0;rcases X.how with ⟨c,_⟩ | ⟨_,f⟩
 ·omega
 have a:(grw h.space x.i ((1+r+d:Nat):Int)).belt=0:=b.2.1.trans (by rw[f]);refine add11_c X.H.bsz (by rw[a];omega) λy j=>?_;obtain ⟨z,i,c,_⟩:=X.H.yng j;have:=X.H.sq z i;show y.seq<(QaW h x r d).i.seq;rw[b.1,f,<- c];exact this
theorem XH.rep(X:XH h BL kind x r d)(e:¬ kind=2):Zb h.belts (grw h.space x.i ((1+r+d:Nat):Int))=some (repB h.belts (grw h.space x.i ((1+r+d:Nat):Int)),0):=by
 have l:=X.i;rcases X.how with ⟨_,o⟩ | ⟨p,s⟩
 ·obtain ⟨q,m,i⟩:=Vu.1 o;obtain ⟨b,k,rfl⟩:=Us m;have f:=X.H.blt b k x i;have c:(grw h.space x.i ((1+r+d:Nat):Int)).belt=(b:Int):=l.2.1.trans f;have g:h.belts[b]?=some (BL[b].map Itm.i):=by rw[X.H.bl,Wh,Wa k];rfl
  obtain ⟨n,j⟩:=Wo.1 g;refine Qgr X.H.bsz (by rw[c];omega) (by rw[c];exact n) ?_ ?_
  ·have:=(X.H.asc _ (Wc k)).imp λ{a b:Itm} (h:a.i.seq<b.i.seq)=>(Int.ne_of_lt h);simp only[c,Wd];rw[j,Vs];exact this
  ·refine ⟨x.i,?_,l.1.symm⟩;simp only[c,Wd];rw[j];exact Vc i
 ·exact absurd p e
end
set_option maxHeartbeats 1000000 in
theorem alloc_c{h:Hp}{K:List (List Itm)}(H:QQ h K)(S:h.seq+257<=4294967294)(w x:Int):J9 h w x=some (Qel h w x):=by
  refine Gd.eq ?_;unfold J9;refine .ite (λF=>.some (by unfold Qel;rw[if_pos F])) λF=>?_;refine .call (live_c w x) ?_;refine .ite (λp=>?_) λp=>.some (by unfold Qel;rw[if_neg F,if_neg p]);have G:QeG w x:=by
    have p:(Qet w x).2=0:=p;unfold Qet at p;split at p
    ·assumption
    ·cases p
  have B:=G;unfold QeG at B;obtain ⟨r,rfl⟩:∃ r:Nat,w=r:=⟨w.toNat,Oo⟩;obtain ⟨d,rfl⟩:∃ d:Nat,x=d:=⟨x.toNat,Oo⟩;have J:r<=15:=by omega
  have C:d<=32:=by omega
  have L:w64 (w64 (1+(r:Int))+d)=((1+r+d:Nat):Int):=by rw[Qb (n:=1+(r:Int)) Oo,Qb Oo];push_cast;rfl
  have u:(1+(r:Int)+d)=((1+r+d:Nat):Int):=by push_cast;rfl
  have E:1<=((1+r+d:Nat):Int)/\((1+r+d:Nat):Int)<=1000:=by omega
  rw[L];refine .call (Qct H) ?_;refine .call (plan_c H E) ?_;have s:Qel h r d=if (XE h ((1+r+d:Nat):Int)).1=3 then
      (if (XE (QcP h ((1+r+d:Nat):Int)) ((1+r+d:Nat):Int)).1=3 then(ddH (QcP h ((1+r+d:Nat):Int)),0,18)
       else(QfW (QcP h ((1+r+d:Nat):Int)) (XE (QcP h ((1+r+d:Nat):Int)) ((1+r+d:Nat):Int)).1 (XE (QcP h ((1+r+d:Nat):Int)) ((1+r+d:Nat):Int)).2 r d,Qgv (QcP h ((1+r+d:Nat):Int)) (XE (QcP h ((1+r+d:Nat):Int)) ((1+r+d:Nat):Int)).2 r d,0))
     else(QfW h (XE h ((1+r+d:Nat):Int)).1 (XE h ((1+r+d:Nat):Int)).2 r d,Qgv h (XE h ((1+r+d:Nat):Int)).2 r d,0):=by
    have p:(Qet (r:Int) d).2=0:=p
    unfold Qel
    rw[if_neg F,if_pos p,u]
  have m:∀ (g:Hp),(∃ a,QQ g a)->g.seq<=h.seq+256->(XE h ((1+r+d:Nat):Int)).1=3->QcP h ((1+r+d:Nat):Int)=g ->
      Gd (λ(z:AlcT ⊕ (Hp×Int×Int))=>(∃ l a k f,z = .inl (mkA l k f.i)/\XH l a k f r d/\Qel h r d=(QfW l k f.i r d,Qgv l f.i r d,0))\/z = .inr (Qel h r d))
        ((QO g.config g.space g.belts g.seq ((1+r+d:Nat):Int)).bind λv =>
          if v.1=3 then(some (.inr (ddH g,0,18))) else some (.inl (mkA g v.1 v.2))):=by
    intro g ⟨a,H1⟩ hs j e
    refine .call (plan_c H1 E) ?_
    rw[if_pos j,e]at s
    refine .ite (λk=>.some (.inr (by rw[s,if_pos k]))) λk=>?_
    obtain ⟨f,D,X⟩:=plan_x H1 J C Oo (k:=(XE g ((1+r+d:Nat):Int)).1) (i:=(XE g ((1+r+d:Nat):Int)).2) rfl k
    refine .some (.inl ⟨g,a,_,f,by rw[D],X,by rw[s,if_neg k,D]⟩)
  obtain ⟨y,N,O,Q,A⟩:=col_ok H Oo ((1+r+d:Nat):Int);refine Gd.bndR (P:=λ(z:AlcT ⊕ (Hp×Int×Int))=>(∃ l a k f,z = .inl (mkA l k f.i)/\XH l a k f r d/\Qel h r d=(QfW l k f.i r d,Qgv l f.i r d,0))\/z = .inr (Qel h r d)) ?_ (λb hP=>?_) (λR hP=>?_)
  · refine .ite (λj=>?_) λj=>?_
    · have j:(XE h ((1+r+d:Nat):Int)).1=3:=j
      refine .call (Qdv H.cfg) ?_
      by_cases t:CplP h.config
      · have q:sncR h=w64 (h.since+1):=by unfold sncR;rw[if_pos t]
        refine .pos (Qa5 t) (.call (Qdv H.cfg) (.pos (Qa5 t) (.ite (λI=>?_) λI=>?_)))
        · have c:QcP h ((1+r+d:Nat):Int)=(Qd5 0 300 (cntH h (sncR h)) ⟨0,false,0⟩).1:=by unfold QcP;rw[if_pos ⟨t,by rw[q];exact I⟩]
          rw[full2_eq]
          have:=full_c (H.cnt (w64 (h.since+1)) ⟨h.stats.allocated,h.stats.objects,w64 (h.stats.collections+1),h.stats.steps,h.stats.rounds,h.stats.condemned,h.stats.copied,h.stats.entries,h.stats.work⟩ h.dead) (by show h.seq+256<=_;omega)
          refine .call this (m _ ?_ ?_ j ?_)
          · rw[q]at c;rw[c]at y;exact y
          · rw[q]at c;rw[c]at A;exact A
          · rw[q]at c;exact c
        · have c:QcP h ((1+r+d:Nat):Int)=(Qd5 ((1+r+d:Nat):Int) 300 (cntH h (sncR h)) ⟨0,false,0⟩).1:=by unfold QcP;rw[if_neg λk=>I (by have:=k.2;rw[q]at this;exact this)]
          rw[for2_eq]
          have:=for_c (H.cnt (w64 (h.since+1)) ⟨h.stats.allocated,h.stats.objects,w64 (h.stats.collections+1),h.stats.steps,h.stats.rounds,h.stats.condemned,h.stats.copied,h.stats.entries,h.stats.work⟩ h.dead) (by show h.seq+256<=_;omega) E
          refine .call this (m _ ?_ ?_ j ?_)
          · rw[q]at c;rw[c]at y;exact y
          · rw[q]at c;rw[c]at A;exact A
          · rw[q]at c;exact c
      · have q:sncR h=h.since:=by unfold sncR;rw[if_neg t]
        have c:QcP h ((1+r+d:Nat):Int)=(Qd5 ((1+r+d:Nat):Int) 300 (cntH h h.since) ⟨0,false,0⟩).1:=by unfold QcP;rw[if_neg λk=>t k.1,q]
        refine .neg (by rw[QI];exact t) (.call (Qdv H.cfg) (.neg (by rw[QI];exact t) ?_))
        rw[for2_eq]
        have:=for_c (H.cnt h.since ⟨h.stats.allocated,h.stats.objects,w64 (h.stats.collections+1),h.stats.steps,h.stats.rounds,h.stats.condemned,h.stats.copied,h.stats.entries,h.stats.work⟩ h.dead) (by show h.seq+256<=_;omega) E
        refine .call this (m _ ?_ ?_ j c)
        · rw[c]at y;exact y
        · rw[c]at A;exact A
    · have j:¬ (XE h ((1+r+d:Nat):Int)).1=3:=j
      obtain ⟨f,D,X⟩:=plan_x H J C Oo (k:=(XE h ((1+r+d:Nat):Int)).1) (i:=(XE h ((1+r+d:Nat):Int)).2) rfl j
      refine .some (.inl ⟨h,K,_,f,by rw[D];rfl,X,by rw[s,if_neg j,D]⟩)
  · rcases hP with ⟨l,a,k,f,e,X,M⟩ | hP
    · injection e with e
      subst e
      rw[M]
      refine .call X.grow (.pos X.gk.len (.pos rfl ?_))
      refine .call X.make (.pos (by rw[X.space];show (QdF l.space f r d).ws.length=_;exact Qf6 _ _ _ _) ?_)
      refine .ite (λo=>?_) λo=>?_
      · have o:k=2:=o
        refine .call (X.add o) (.some ?_)
        unfold QfW
        rw[if_pos o,if_pos o,u]
        rfl
      · have o:¬ k=2:=o
        refine .call (X.rep o) (.some ?_)
        unfold QfW
        rw[if_neg o,if_neg o,u]
        rfl
    · cases hP
  · rcases hP with ⟨l,a,k,f,e,_⟩ | hP
    · cases e
    · injection hP with hP
theorem wAt_q(s:Sp)(q:Nat):wAt s (q:Int)=(s.ws[q]?).getD 0:=by
 by_cases h:q<s.ws.length
 ·rw[Xh (Wa h),Wa h];rfl
 ·rw[Wi Oo];unfold wAt;rw[dif_neg (by rw[Wd];exact λk=>h k.2)];rfl
theorem QQ.hands{h:Hp}{a:List (List Itm)}(H:QQ h a){R:Rts}(r1:Qcz R)(r2:∀ i∈ZY R,1<=Qz R i/\∃ r d,ObjZ (szS h.space) a.flatten (Qz R i-1).toNat r d)(s:Int)(t:Sts)(b:Bool):QQ ⟨h.config,h.space,h.belts,h.seq,h.sets,R,s,t,b⟩ a:=by obtain ⟨c,e,f,g,j,k,l,m,n,x,y,o,p,q,u,v,w⟩:=H;exact ⟨c,e,f,g,j,k,l,m,n,r1,r2,o,p,q,u,v,w⟩
def takR(R:Rts)(i:Nat)(w:Int):Rts:=⟨R.used.set i true,R.refs.set i w⟩
def drpR(R:Rts)(i:Nat):Rts:=⟨R.used.set i false,R.refs.set i 0⟩
theorem refAt_set{us:List Bool}{b:List Int}{i j:Nat}{w:Int}:Qz ⟨us,b.set i w⟩ j=if i=j/\i<b.length then w else(b[j]?).getD 0:=by
 unfold Qz;rw[Up];by_cases e:i=j
 ·rw[if_pos e];by_cases a:i<b.length
  ·rw[if_pos a,if_pos ⟨e,a⟩];rfl
  ·rw[if_neg a,if_neg λk=>a k.2,Wi Oo]
 ·rw[if_neg e,if_neg λk=>e k.1]
theorem tak_ok{R:Rts}(h:Qcz R){i:Nat}{w:Int}(g:i<32)(f:U64 w):Qcz (takR R i w):=by
 have c:=h.u;have d:=h.v;refine ⟨by unfold takR;rw[Ww];exact c,by unfold takR;rw[Ww];exact d,λj b a=>?_,λx e=>?_⟩
 ·have b:j<(R.used.set i true).length:=b;have a:j<(R.refs.set i w).length:=a;show (R.used.set i true)[j]=false->(R.refs.set i w)[j]=0;rw[Uw,Uw];intro k;split at k
  ·cases k
  ·rename_i hne;rw[if_neg hne];exact h.z j (by rw[Ww]at b;exact b) (by rw[Ww]at a;exact a) k
 ·rcases WY e with k | k
  ·exact h.w x k
  ·rw[k];exact f
theorem drp_ok{R:Rts}(h:Qcz R){i:Nat}(f:i<32):Qcz (drpR R i):=by
 have c:=h.u;have d:=h.v;refine ⟨by unfold drpR;rw[Ww];exact c,by unfold drpR;rw[Ww];exact d,λj b a=>?_,λx e=>?_⟩
 ·have b:j<(R.used.set i false).length:=b;have a:j<(R.refs.set i 0).length:=a;show (R.used.set i false)[j]=false->(R.refs.set i 0)[j]=0;rw[Uw,Uw];intro k;split at k
  ·rename_i he;rw[if_pos he]
  ·rename_i hne;rw[if_neg hne];exact h.z j (by rw[Ww]at b;exact b) (by rw[Ww]at a;exact a) k
 ·rcases WY e with k | k
  ·exact h.w x k
  ·rw[k];unfold U64;omega
theorem tak_live{R:Rts}(h:Qcz R){i j:Nat}{w:Int}(b:i<32):j∈ZY (takR R i w)<->j=i\/j∈ZY R:=by
 have a:=h.u;rw[Xj,Xj];unfold takR;dsimp only;rw[Up];by_cases e:i=j
 ·rw[if_pos e,if_pos Oo];simp[e]
 ·rw[if_neg e];exact ⟨.inr,λk=>k.elim (λq=>absurd q.symm e) id⟩
theorem drp_live{R:Rts}(h:Qcz R){i j:Nat}(b:i<32):j∈ZY (drpR R i)<->j≠i/\j∈ZY R:=by
 have a:=h.u;rw[Xj,Xj];unfold drpR;dsimp only;rw[Up];by_cases e:i=j
 ·rw[if_pos e,if_pos Oo];simp[e]
 ·rw[if_neg e];exact ⟨λk=>⟨λq=>e q.symm,k⟩,λk=>k.2⟩
theorem tak_ref{R:Rts}(h:Qcz R){i j:Nat}{w:Int}(b:i<32):Qz (takR R i w) j=if j=i then w else Qz R j:=by
 have a:=h.v;unfold takR;rw[refAt_set];by_cases e:j=i
 ·rw[if_pos e,if_pos ⟨e.symm,Oo⟩]
 ·rw[if_neg e,if_neg λk=>e k.1.symm];rfl
theorem drp_ref{R:Rts}{i j:Nat}(e:j≠i):Qz (drpR R i) j=Qz R j:=by unfold drpR;rw[refAt_set,if_neg λk=>e k.1.symm];rfl
theorem QQ.take{h:Hp}{a:List (List Itm)}(H:QQ h a){i:Nat}(c:i<32){w:Int}(g:1<=w)(l:U64 w){r d:Nat}(k:ObjZ (szS h.space) a.flatten (w-1).toNat r d)(s:Int)(t:Sts)(b:Bool):QQ ⟨h.config,h.space,h.belts,h.seq,h.sets,takR h.roots i w,s,t,b⟩ a:=by
 refine H.hands (tak_ok H.rts c l) (λj f=>?_) s t b;rw[tak_ref H.rts c];by_cases e:j=i
 ·rw[if_pos e];exact ⟨g,r,d,k⟩
 ·rw[if_neg e];exact H.roots j (((tak_live H.rts c).1 f).resolve_left e)
theorem QQ.dropH{h:Hp}{c:List (List Itm)}(H:QQ h c){i:Nat}(a:i<32)(s:Int)(t:Sts)(b:Bool):QQ ⟨h.config,h.space,h.belts,h.seq,h.sets,drpR h.roots i,s,t,b⟩ c:=by refine H.hands (drp_ok H.rts a) (λj f=>?_) s t b;obtain ⟨d,e⟩:=(drp_live H.rts a).1 f;rw[drp_ref d];exact H.roots j e
structure FldX(h:Hp)(BL:List (List Itm))(x:Itm)(p r d k:Nat):Prop where
 H:QQ h BL
 hx:x∈BL.flatten
 hp:(p,r,d)∈obs 0 x.os
 k1:1<=k
 k2:k<=r+d
section
variable{h:Hp}{BL:List (List Itm)}{x:Itm}{p r d k:Nat}
def Qfk(s:Sp)(x:Itm)(p k:Nat)(w:Int):Sp:=⟨s.sh,s.ws.set (adr (szS s) x.fr (p+k)) w,s.fs⟩
theorem FldX.lt(X:FldX h BL x p r d k):adr (szS h.space) x.fr (p+k)<h.space.ws.length:=by have a:=X.H.sp.each x X.hx;have b:=Itm.posOk X.H.sp.ok a X.hp;have:=X.k2;exact QaJ X.H.sp.ok.shp a.inc.ch.lt (p:=p+k) Oo
theorem FldX.sp(X:FldX h BL x p r d k){w:Int}(A:U64 w):QcM (Qfk h.space x p k w) BL.flatten:=by
 have n:=X.H.sp.each x X.hx;have u:=X.lt;have f:Zn (Qfk h.space x p k w):=by
  refine sp_ws X.H.sp.ok (by rw[Ww]) λj v b a B C e=>?_;rw[Uw];by_cases t:adr (szS h.space) x.fr (p+k)=a
  ·have s:=(ZI X.H.sp.ok n X.hp (k:=k) X.k2 (q:=(a:Int)) Oo (by rw[Wd,t])).1;have g:Jn h.space (a:Int)=j:=by unfold Jn;rw[Wd];exact e
   rw[g]at s;exact absurd b (n.inc.toIncC.own j s v)
  ·rw[if_neg t]
 refine ⟨f,⟨λy c=>?_,X.H.sp.w.2⟩,λy c=>?_,X.H.sp.seqs,X.H.sp.all⟩
 ·rcases WY c with q | q
  ·exact X.H.sp.w.1 y q
  ·rw[q];exact A
 ·have i:=X.H.sp.each y c;have l:=i.inc;refine ⟨{ l.toIncC with wd:=?_,len:=l.len },?_⟩
  ·have:=l.wd;show 0<=y.i.words/\y.i.words<=((h.space.ws.set _ w).length:Int);rw[Ww];exact this
  ·refine Lay.heads (z:=szS h.space) (ws:=h.space.ws) i.lay λo b=>?_;show (h.space.ws.set (adr (szS h.space) x.fr (p+k)) w)[adr (szS h.space) y.fr o.1]?=_;have m:adr (szS h.space) x.fr (p+k)≠adr (szS h.space) y.fr o.1:=λe=>by have:=obj_inj X.H X.hx c X.hp (p':=o.1) (r':=o.2.1) (d':=o.2.2) (k':=0) b X.k2 Oo e;have:=X.k1;omega
   rw[WK m];exact (i.lay.get o b).2.2.2.2
theorem FldX.wne(X:FldX h BL x p r d k){w:Int}{q:Nat}(a:q≠adr (szS h.space) x.fr (p+k)):wAt (Qfk h.space x p k w) (q:Int)=wAt h.space (q:Int):=by rw[wAt_q,wAt_q];unfold Qfk;dsimp only;rw[WK a.symm]
theorem FldX.weq(X:FldX h BL x p r d k){w:Int}:wAt (Qfk h.space x p k w) ((adr (szS h.space) x.fr (p+k):Nat):Int)=w:=by rw[wAt_q];unfold Qfk;dsimp only;rw[WN X.lt];rfl
theorem FldX.nslot(X:FldX h BL x p r d k)(n:r<k){q:Nat}(c:QaX (szS h.space) BL.flatten q):q≠adr (szS h.space) x.fr (p+k):=by obtain ⟨y,b,f,g,i,a,j,l,m,rfl⟩:=c;intro e;have:=obj_inj X.H b X.hx a X.hp Oo X.k2 e;omega
theorem FldX.slot(X:FldX h BL x p r d k)(a:k<=r):QaX (szS h.space) BL.flatten (adr (szS h.space) x.fr (p+k)):=⟨x,X.hx,p,r,d,X.hp,k,X.k1,a,rfl⟩
theorem fldS_need{s:Sp}{x:Itm}{p k:Nat}{w q v:Int}:Qby (Qfk s x p k w) q v<->Qby s q v:=by unfold Qby Qfk;dsimp only;rw[Ww];exact Iff.rfl
theorem FldX.data(X:FldX h BL x p r d k)(G:r<k){w:Int}(F:U64 w)(s:Int)(t:Sts)(b:Bool):QQ ⟨h.config,Qfk h.space x p k w,h.belts,h.seq,h.sets,h.roots,s,t,b⟩ BL:=by
 have f:=X.sp F;have c:∀ q,QaX (szS h.space) BL.flatten q->wAt (Qfk h.space x p k w) (q:Int)=wAt h.space (q:Int):=λq a=>X.wne (X.nslot G a);obtain ⟨g,i,j,H,l,m,n,o,u,v,y,z,A,B,C,D,E⟩:=X.H;refine ⟨g,i,j,f,l,m,n,o,u,v,y,λq a=>?_,A,B,C,λq a e=>?_,E⟩
 ·have a:QaX (szS h.space) BL.flatten q:=a;show RefW _ _ (wAt (Qfk h.space x p k w) (q:Int));rw[c q a];exact z q a
 ·have a:QaX (szS h.space) BL.flatten q:=a;have e:Qby (Qfk h.space x p k w) (q:Int) (wAt (Qfk h.space x p k w) (q:Int)):=e;show InS h.sets (Jn h.space (q:Int):Int) (Jn h.space (wAt (Qfk h.space x p k w) (q:Int)-1):Int) (q:Int);rw[c q a]at e ⊢;exact D q a (fldS_need.1 e)
def refH(h:Hp)(x:Itm)(p k:Nat)(w:Int):Hp:=⟨h.config,Qfk h.space x p k w,h.belts,h.seq,Qck (Qfk h.space x p k w) h.sets ((adr (szS h.space) x.fr (p+k):Nat):Int) w,h.roots,h.since,h.stats,h.dead⟩
theorem FldX.ref(X:FldX h BL x p r d k)(S:k<=r){w:Int}(R:U64 w)(g:RefW (szS h.space) BL.flatten w):QQ (refH h x p k w) BL:=by
 have c:=X.sp R;have i:=X.slot S;have T:=X.H.sp.each x X.hx;obtain ⟨s,u,m⟩:=noteK_ok c.ok X.H.sok X.H.sin ((adr (szS h.space) x.fr (p+k):Nat):Int) w;have j:∀ q:Nat,wAt (Qfk h.space x p k w) (q:Int)=if (q:Nat)=adr (szS h.space) x.fr (p+k) then w else wAt h.space (q:Int):=λq=>by
  split
  ·rename_i e;rw[e];exact X.weq
  ·rename_i e;exact X.wne e
 have o:=X.H;obtain ⟨v,y,z,U,A,B,C,D,E,F,G,H,V,W,I,J,K⟩:=X.H;refine ⟨v,y,z,c,A,B,C,D,E,F,G,λq b=>?_,s,u,λf t q n=>?_,λq b a=>?_,K⟩
 ·have b:QaX (szS h.space) BL.flatten q:=b;show RefW _ _ (wAt (Qfk h.space x p k w) (q:Int));rw[j q];split
  ·exact g
  ·exact H q b
 ·rcases (m f t q).1 n with n | ⟨a,rfl,rfl,rfl⟩
  ·exact I f t q n
  ·refine ⟨by rw[Wd];exact i,rfl,?_⟩;rcases g with g | ⟨P,Y,Z,Q⟩
   ·exact absurd g a.1.1
   ·obtain ⟨L,M⟩:=obj_owned o.sp Q (q:=w-1) Oo rfl;obtain ⟨N,O⟩:=fs_at (show ((Jn (Qfk h.space x p k w) (w-1):Nat):Int).toNat=Jn h.space (w-1) from by rw[Wd];rfl) L M;exact ⟨N,Oo,O⟩
 ·have b:QaX (szS h.space) BL.flatten q:=b;have a:Qby (Qfk h.space x p k w) (q:Int) (wAt (Qfk h.space x p k w) (q:Int)):=a;show InS (Qck (Qfk h.space x p k w) h.sets ((adr (szS h.space) x.fr (p+k):Nat):Int) w) (Jn h.space (q:Int):Int) (Jn h.space (wAt (Qfk h.space x p k w) (q:Int)-1):Int) (q:Int);by_cases e:q=adr (szS h.space) x.fr (p+k)
  ·have l:wAt (Qfk h.space x p k w) (q:Int)=w:=by rw[e];exact X.weq
   rw[l]at a ⊢;refine (m _ _ _).2 (.inr ⟨by rw[e]at a;exact a,by rw[e];rfl,rfl,by rw[e]⟩)
  ·have l:=X.wne (w:=w) e;rw[l]at a ⊢;exact (m _ _ _).2 (.inl (J q b (fldS_need.1 a)))
end
theorem valid20_c{R:Rts}(h:Qcz R):Jf R=some true:=by have d:=h.u;have e:=h.v;refine Gd.eq ?_;unfold Jf;refine .pos Oo (.pos Oo ?_);refine Gd.bndR (P:=λz=>z = .inl ()) ?_ (λ_ a=>.some rfl) (λr a=>by cases a);refine Gd.find R.used (λ_=>False) Oo (λi b f=>?_) (λ_=>rfl);refine .atN b (.ite (λk=>.some (.inl ⟨id,rfl⟩)) λk=>?_);have k:¬ R.used[i]=true:=k;have c:=h.z i b Oo (by simpa using k);refine .atN Oo (.pos c (.some (.inl ⟨id,rfl⟩)))
def frsI(R:Rts):Option Nat:=(List.range R.used.length).find? λi=>R.used[i]? == some false
def takE(R:Rts)(w:Int):Rts×Int×Int:=match frsI R with
 | some i=>(takR R i w,((i+1:Nat):Int),0)
 | none=>(⟨[],[]⟩,0,15)
theorem take20_c{R:Rts}(h:Qcz R)(w:Int):JK R w=some (takE R w):=by
 have f:=h.u;have g:=h.v;refine Gd.eq ?_;unfold JK;refine .call (valid20_c h) (.pos rfl ?_);refine Gd.bndR (P:=λz=>(z = .inl ()/\frsI R=none)\/z = .inr (takE R w)) ?_ (λ_ hP=>?_) (λr hP=>?_)
 ·refine Gd.find R.used (λx=>x=false) Oo (λi a b=>?_) (λb=>.inl ⟨rfl,?_⟩)
  ·refine .atN a (.ite (λk=>.some (.inl ⟨by simp[show R.used[i]=true from k],rfl⟩)) λk=>?_);have k:¬ R.used[i]=true:=k;have c:R.used[i]=false:=by simpa using k
   refine .call (copy20_c Oo Oo) (.atN a (.atN Oo (.some (.inr ⟨c,_,rfl,.inr ?_⟩))));have e:frsI R=some i:=by unfold frsI;rw[YL];refine ⟨by simp[Wa a,c],WE.2 a,λj d=>?_⟩;have:=b j Oo d;simp[Wa (show j<R.used.length by omega),this]
   unfold takE takR;rw[e,Qb Oo,Wd];rfl
  ·unfold frsI;rw[Yf];intro i a;rw[WE]at a;have:=b _ (Wc a);simp[Wa a,this]
 ·rcases hP with ⟨_,hP⟩ | hP
  ·refine .some ?_;unfold takE;rw[hP]
  ·cases hP
 ·rcases hP with ⟨hP,_⟩ | hP
  ·cases hP
  ·injection hP with hP
theorem frsI_some{R:Rts}(h:Qcz R)(d:¬ (ZY R).length=32):∃ i,frsI R=some i/\i<32/\R.used[i]?=some false:=by
 have c:=h.u;cases e:frsI R with
 | none =>
  exfalso;apply d;unfold frsI at e;rw[Yf]at e;have:ZY R=List.range R.used.length:=by
   unfold ZY;rw[VI];intro i b;have a:=e i b;rw[WE]at b;rw[Wa b]at a ⊢;cases hb:R.used[i] with
   | true=>rfl
   | false=>rw[hb]at a;exact absurd rfl a
  rw[this,WS,c]
 | some i =>unfold frsI at e;have a:=List.find?_some e;have f:=WE.1 (Ug e);exact ⟨i,rfl,Oo,by simpa using a⟩
theorem full28_c{h:Hp}(a:Qcz h.roots):JI h=some (decide ((ZY h.roots).length=32)):=by have b:=a.u;unfold JI;rw[live20_c h.roots Oo];simp only[WB,Wb];congr 1;rw[decide_eq_decide];omega
def Qf7(R:Rts)(a:Int)(nz:Bool):Int:=if a=0 then(if nz=true then 16 else 0) else if a<0\/32<a then 14 else if R.used[(a-1).toNat]?=some true then 0 else 14
theorem Qdt{h:Hp}(d:Qcz h.roots)(a:Int)(nz:Bool):Zu h a nz=some (Qf7 h.roots a nz):=by
 have e:=d.u;refine Gd.eq ?_;unfold Zu Qf7;refine .ite (λb=>?_) λb=>?_
 ·rw[if_pos b];exact .ite (λk=>.some (by rw[if_pos k])) λk=>.some (by rw[if_neg k])
 ·rw[if_neg b];refine .ite (λk=>.some (by rw[if_pos (.inl k)])) λf=>.ite (λk=>.some (by rw[if_pos (.inr k)])) λg=>?_;rw[if_neg Oo,Qb Oo];obtain ⟨i,rfl⟩:∃ i:Nat,a=((i+1:Nat):Int):=⟨(a-1).toNat,Oo⟩;have c:i<h.roots.used.length:=by omega
  rw[show ((i+1:Nat):Int)-1=(i:Int) by omega,Wd,Wa c];refine .atN c (.ite (λk=>.some (by rw[if_pos (by rw[show h.roots.used[i]=true from k])])) λk=>.some (by rw[if_neg (by simpa using k)]))
theorem hdlE_0{R:Rts}{a:Int}{nz:Bool}(h:Qf7 R a nz=0):(a=0/\nz=false)\/∃ i:Nat,a=((i+1:Nat):Int)/\i<32/\i∈ZY R:=by
 unfold Qf7 at h;split at h
 ·rename_i e;split at h
  ·cases h
  ·rename_i k;exact .inl ⟨e,by simpa using k⟩
 ·split at h
  ·cases h
  ·split at h
   ·rename_i k;exact .inr ⟨(a-1).toNat,Oo,Oo,Xj.2 k⟩
   ·cases h
def Qd4(R:Rts)(a:Int):Int:=if a=0 then 0 else Qz R (a-1).toNat
theorem Qd7{h:Hp}(d:Qcz h.roots){a:Int}(f:0<=a/\a<=32):QN h a=some (Qd4 h.roots a):=by
 have e:=d.v;refine Gd.eq ?_;unfold QN Qd4;refine .ite (λb=>.some (by rw[if_pos b])) λb=>?_;rw[if_neg b,Qb Oo];obtain ⟨i,rfl⟩:∃ i:Nat,a=((i+1:Nat):Int):=⟨(a-1).toNat,Oo⟩;have c:i<h.roots.refs.length:=by omega
 rw[show ((i+1:Nat):Int)-1=(i:Int) by omega,Wd];refine .atN c (.some ?_);unfold Qz;rw[Wa c];rfl
theorem drop20_c{R:Rts}(h:Qcz R){i:Nat}(f:i<32)(c:i∈ZY R):QaN R ((i+1:Nat):Int)=some (drpR R i,0):=by
 have d:=h.u;have e:=h.v;have a:=Xj.1 c;rw[Wa Oo]at a;injection a with a;have b:Qac R ((i+1:Nat):Int)=some 0:=by refine Gd.eq ?_;unfold Qac;refine .call (valid20_c h) (.pos rfl (.neg Oo (.neg Oo ?_)));rw[Qb Oo,show ((i+1:Nat):Int)-1=(i:Int) by omega];exact .atN Oo (.pos a (.some rfl))
 refine Gd.eq ?_;unfold QaN;refine .call b (.pos rfl (.call (copy20_c Oo Oo) ?_));rw[Qb Oo,show ((i+1:Nat):Int)-1=(i:Int) by omega];exact .atN Oo (.atN Oo (.some rfl))
theorem obs_len':∀ (l:List (Nat×Nat)) (p:Nat),(obs p l).length=l.length
 | [],p=>rfl
 | (r,d) :: l,p=>congrArg (·+1) (obs_len' l _)
theorem Lay.len'{z:Nat}{ws:List Int}{fr:List Nat}:∀ {l:List (Nat×Nat)} {p q:Nat},Lay z ws fr p l q->p+l.length<=q
 | [],p,q,h=>by have:p=q:=h;simp;omega
 | (r,d) :: l,p,q,h=>by obtain ⟨b,c,e,a⟩:=h;have:=a.len';rw[W3];omega
section
variable{h:Hp}{BL:List (List Itm)}
theorem is_c(H:QQ h BL){a:Int}(u:0<=a){r d:Nat}(v:ObjZ (szS h.space) BL.flatten a.toNat r d):Qbc h a=some true:=by
 obtain ⟨x,m,p,n,e⟩:=v;have c:=H.sp.each x m;obtain ⟨o,D⟩:=ZI H.sp.ok c n (k:=0) Oo u e;have b:=c.inc.ch.lt _ o;have w:=(Jo H.sp.ok.shp.sh);refine Gd.eq ?_;unfold Qbc;refine .neg Oo (.neg Oo (.pos (wu_u _).1 ?_));rw[Qgn H.sp.ok.shp.sh a.toNat Oo];have b:a.toNat/szS h.space<h.space.fs.length:=b;refine .atN (i:=a.toNat/szS h.space) b ?_;have g:(h.space.fs[a.toNat/szS h.space]'b).ow=x.i.seq:=(c.inc.toIncC.ow _ b).2 o;rw[g];refine .call (find11_c H.bsz _) ?_;have j:=find_uniq H.dist (x:=x.i) (by rw[H.flat];exact Vc m);rw[j];refine .pos rfl ?_;refine .call (all_spec H.sp.ok H.sp.w c) ?_;refine Gd.bndR (P:=λz=>z = .inr true) ?_ (λ_ f=>by cases f) (λr f=>by injection f with f);have s:a∈adrs h.space x:=by unfold adrs;exact Wm.2 ⟨(p,r,d),n,by dsimp only;omega⟩
 have l:(adrs h.space x).length<=16384:=by unfold adrs;rw[Wb,obs_len'];have A:=c.lay.len';have B:=c.inc.wd;have C:=XF H.sp.ok;omega
 refine Gd.find (adrs h.space x) (λy=>y=a) Oo (λi t q=>?_) (λq=>absurd rfl (q a s));exact .atN t (.ite (λk=>.some (.inr ⟨k,_,rfl,rfl⟩)) λk=>.some (.inl ⟨k,rfl⟩))
end
theorem rnd_keep{h:Hp}{d:List (List Itm)}(H:QQ h d)(f:h.seq+256<=4294967294)(n:Int) :
  (Qd5 n 300 h ⟨0,false,0⟩).1.roots.used=h.roots.used/\(Qd5 n 300 h ⟨0,false,0⟩).1.space.sh=h.space.sh/\(Qd5 n 300 h ⟨0,false,0⟩).1.space.ws.length=h.space.ws.length:=by obtain ⟨g,b,m,i,s,j,a,c⟩:=rnd_ok H f n;have a:=s.keep;rcases c with ⟨e,_⟩ | ⟨e,_⟩ <;> (rw[e];exact ⟨a.2.2.2.2.2.1,a.2.2.2.2.2.2.1,a.2.2.2.2.2.2.2.1⟩)
theorem col_keep{h:Hp}{b:List (List Itm)}(H:QQ h b)(c:h.seq+256<=4294967294)(n:Int) :
  (QcP h n).roots.used=h.roots.used/\(QcP h n).space.sh=h.space.sh/\(QcP h n).space.ws.length=h.space.ws.length:=by
 have a:QQ (cntH h (sncR h)) b:=H.cnt _ _ _;unfold QcP;split
 ·exact rnd_keep a c 0
 ·exact rnd_keep a c n
theorem alc_spec{h:Hp}{m:List (List Itm)}(H:QQ h m)(u:h.seq+257<=4294967294)(o:¬ h.dead=true){a b:Int}(c:(Qet a b).2=0) :
  (Qel h a b=(ddH (QcP h (1+a+b)),0,18)) \/
   ∃ r d:Nat,a=r/\b=d/\∃ h1 BL1 k x1,XH h1 BL1 k x1 r d/\Qel h a b=(QfW h1 k x1.i r d,Qgv h1 x1.i r d,0)/\(h1=h\/h1=QcP h (1+a+b)):=by
 have e:QeG a b:=by
  unfold Qet at c;split at c
  ·assumption
  ·cases c
 unfold QeG at e;obtain ⟨r,rfl⟩:∃ r:Nat,a=r:=⟨a.toNat,Oo⟩;obtain ⟨d,rfl⟩:∃ d:Nat,b=d:=⟨b.toNat,Oo⟩;have f:(1+(r:Int)+d)=((1+r+d:Nat):Int):=by push_cast;rfl
 obtain ⟨⟨BL1,n⟩,p,q,s,t⟩:=col_ok H Oo ((1+r+d:Nat):Int);unfold Qel;rw[if_neg o,if_pos c,f];by_cases j:(XE h ((1+r+d:Nat):Int)).1=3
 ·rw[if_pos j];by_cases l:(XE (QcP h ((1+r+d:Nat):Int)) ((1+r+d:Nat):Int)).1=3
  ·rw[if_pos l];exact .inl rfl
  ·rw[if_neg l];obtain ⟨x1,g,X⟩:=plan_x n (r:=r) (d:=d) Oo Oo Oo (k:=(XE (QcP h ((1+r+d:Nat):Int)) ((1+r+d:Nat):Int)).1) (i:=(XE (QcP h ((1+r+d:Nat):Int)) ((1+r+d:Nat):Int)).2) rfl l;exact .inr ⟨r,d,rfl,rfl,_,BL1,_,x1,X,by rw[g],.inr rfl⟩
 ·rw[if_neg j];obtain ⟨x1,g,X⟩:=plan_x H (r:=r) (d:=d) Oo Oo Oo (k:=(XE h ((1+r+d:Nat):Int)).1) (i:=(XE h ((1+r+d:Nat):Int)).2) rfl j;exact .inr ⟨r,d,rfl,rfl,_,m,_,x1,X,by rw[g],.inl rfl⟩
theorem XH.word1{h:Hp}{c:List (List Itm)}{b:Int}{x:Itm}{r d:Nat}(X:XH h c b x r d):0<=Qgv h x.i r d/\Qgv h x.i r d<16384:=by have e:=X.room';have a:=QaJ X.own.1.shp X.own.2.2.inc.ch.lt (p:=x.i.words.toNat) (by rw[X.z];omega);have:=X.own.1.shp.small;rw[X.ats];rw[X.z]at a;have a:adr (szS h.space) (QaW h x r d).fr x.i.words.toNat<(QdF h.space x r d).ws.length:=a;omega
def alcD(h:Hp)(r d:Int):Hp×Ans := if (Qet r d).2=0 then(if (ZY h.roots).length=32 then(h,⟨15,0⟩) else if (Qel h r d).2.2=0 then(⟨(Qel h r d).1.config,(Qel h r d).1.space,(Qel h r d).1.belts,(Qel h r d).1.seq,(Qel h r d).1.sets,(takE (Qel h r d).1.roots ((Qel h r d).2.1+1)).1,(Qel h r d).1.since,(Qel h r d).1.stats,(Qel h r d).1.dead⟩,⟨0,(takE (Qel h r d).1.roots ((Qel h r d).2.1+1)).2.1⟩) else((Qel h r d).1,⟨(Qel h r d).2.2,0⟩)) else(h,⟨(Qet r d).2,0⟩)
theorem takE_rng(R:Rts)(a:R.used.length=32)(w:Int):0<=(takE R w).2.1/\(takE R w).2.1<=32:=by
 unfold takE;cases e:frsI R with
 | none=>exact ⟨Vo _,by show (0:Int)<=32;omega⟩
 | some i =>have:=WE.1 (Ug e);show 0<=((i+1:Nat):Int)/\((i+1:Nat):Int)<=32;omega
theorem alcD_c{h:Hp}{n:List (List Itm)}(H:QQ h n)(j:h.seq+257<=4294967294)(m:¬ h.dead=true)(o:AOp):J8 h o=some (alcD h o.a o.b):=by
 refine Gd.eq ?_;unfold J8 alcD;refine .call (live_c _ _) ?_;refine .ite (λb=>?_) λb=>?_
 ·have b:(Qet o.a o.b).2=0:=b;rw[if_pos b];refine .call (full28_c H.rts) ?_;refine .ite (λc=>?_) λc=>?_
  ·rw[if_pos (of_decide_eq_true c)];exact .some rfl
  ·rw[if_neg (λk=>c (decide_eq_true k))];refine .call (alloc_c H j _ _) ?_;refine .ite (λa=>?_) λa=>?_
   ·have a:(Qel h o.a o.b).2.2=0:=a;rw[if_pos a];rcases alc_spec H j m b with e | ⟨r,d,q,s,g,l,k,i,X,e,_⟩
    ·rw[e]at a;cases a
    ·have f:=X.inv.rts;have p:=X.word1;rw[e];dsimp only;rw[Qb Oo,Xg Oo];refine .call (take20_c f _) ?_;have:=takE_rng (QfW g k i.i r d).roots f.u (Qgv g i.i r d+1);refine .some ?_;rw[Xg Oo]
   ·have a:¬ (Qel h o.a o.b).2.2=0:=a;rw[if_neg a];exact .some rfl
 ·have b:¬ (Qet o.a o.b).2=0:=b;rw[if_neg b];exact .some rfl
structure OpOut(h:Hp)(r:Hp×Ans):Prop where
 inv:∃ BL,QQ r.1 BL
 cfg:r.1.config=h.config
 ded:r.1.dead=h.dead
 lo:h.seq<=r.1.seq
 hi:r.1.seq<=h.seq+257
theorem OpOut.same{h:Hp}{b:List (List Itm)}(H:QQ h b)(a:Ans):OpOut h (h,a):=⟨⟨b,H⟩,rfl,rfl,Vo _,by show h.seq<=h.seq+257;omega⟩
theorem alcD_ok{h:Hp}{A:List (List Itm)}(H:QQ h A)(B:h.seq+257<=4294967294)(z:¬ h.dead=true)(f g:Int):(alcD h f g).2.err=18\/OpOut h (alcD h f g):=by
 unfold alcD;split
 ·rename_i hl;split
  ·exact .inr (.same H _)
  ·rename_i hf;rcases alc_spec H B z hl with e | ⟨r,d,D,E,a,l,k,b,X,e,y⟩
   ·rw[e,if_neg (by show ¬ (18:Int)=0;omega)];exact .inl rfl
   ·right;rw[e,if_pos rfl];dsimp only;have m:=X.inv;have C:=X.word1;have j:(QfW a k b.i r d).config=h.config/\(QfW a k b.i r d).dead=h.dead/\(QfW a k b.i r d).roots.used=h.roots.used/\h.seq<=a.seq/\a.seq<=h.seq+256:=by
     rcases y with rfl | rfl
     ·exact ⟨rfl,rfl,rfl,Vo _,Oo⟩
     ·obtain ⟨_,q,s,t,u⟩:=col_ok H Oo (1+f+g);exact ⟨q,s,(col_keep H Oo (1+f+g)).1,t,u⟩
    have c:¬ (ZY (QfW a k b.i r d).roots).length=32:=by unfold ZY;rw[j.2.2.1];exact hf
    obtain ⟨i,v,x,_⟩:=frsI_some m.rts c;have o:(takE (QfW a k b.i r d).roots (Qgv a b.i r d+1)).1=takR (QfW a k b.i r d).roots i (Qgv a b.i r d+1):=by unfold takE;rw[v]
    have n:=X.seqE;refine ⟨⟨Qbw l k b (QaW a b r d),?_⟩,j.1,j.2.1,?_,?_⟩
    ·rw[o];have p:szS (QfW a k b.i r d).space=szS a.space:=by show szS (putS a b.i r d)=_;rw[X.space];exact X.z
     exact m.take x (w:=Qgv a b.i r d+1) Oo (by unfold U64;omega) (r:=r) (d:=d) (by rw[p,show Qgv a b.i r d+1-1=Qgv a b.i r d by omega];exact X.new) _ _ _
    ·show h.seq<=(QfW a k b.i r d).seq;rw[n];split <;> omega
    ·show (QfW a k b.i r d).seq<=_;rw[n];split <;> omega
 ·exact .inr (.same H _)
section
variable{h:Hp}{BL:List (List Itm)}
structure QbQ(h:Hp)(BL:List (List Itm))(i:Nat)(x:Itm)(p r d:Nat):Prop where
 H:QQ h BL
 hi:i∈ZY h.roots
 hx:x∈BL.flatten
 hp:(p,r,d)∈obs 0 x.os
 e:Qz h.roots i=((adr (szS h.space) x.fr p:Nat):Int)+1
theorem root_x(H:QQ h BL){i:Nat}(a:i∈ZY h.roots):∃ x p r d,QbQ h BL i x p r d:=by obtain ⟨f,r,d,x,b,p,c,e⟩:=H.roots i a;exact ⟨x,p,r,d,H,a,b,c,Oo⟩
section
variable{i:Nat}{x:Itm}{p r d:Nat}
theorem QbQ.i32(X:QbQ h BL i x p r d):i<32:=by have a:=X.H.rts.u;obtain ⟨b,_⟩:=Wo.1 (Xj.1 X.hi);omega
theorem QbQ.pos(X:QbQ h BL i x p r d):p+r+d<x.fr.length*szS h.space/\r<=15/\d<=32/\h.space.ws[adr (szS h.space) x.fr p]?=some (hdW r d):=Itm.posOk X.H.sp.ok (X.H.sp.each x X.hx) X.hp
theorem QbQ.lt(X:QbQ h BL i x p r d):adr (szS h.space) x.fr p<h.space.ws.length/\h.space.ws.length<=16384 :=
 ⟨QaJ X.H.sp.ok.shp (X.H.sp.each x X.hx).inc.ch.lt (p:=p) (by have:=X.pos;omega),XF X.H.sp.ok⟩
theorem QbQ.look(X:QbQ h BL i x p r d):Qy h.space (Qz h.roots i-1)=⟨r,d,0⟩:=by have a:=X.H.sp.each x X.hx;obtain ⟨b,c,e,f⟩:=X.pos;rw[X.e,show ((adr (szS h.space) x.fr p:Nat):Int)+1-1=((adr (szS h.space) x.fr p:Nat):Int) by omega];exact (QeR X.H.sp.ok a.inc.ch a.inc.own b c e f).1
theorem QbQ.obj(X:QbQ h BL i x p r d):0<=Qz h.roots i-1/\ObjZ (szS h.space) BL.flatten (Qz h.roots i-1).toNat r d:=by rw[X.e];exact ⟨Oo,x,X.hx,p,X.hp,Oo⟩
def fldK(r:Nat)(b:Int)(a:Bool):Nat:=if a then 1+b.toNat else 1+r+b.toNat
theorem QbQ.plc(X:QbQ h BL i x p r d)(b:Int)(a:Bool):PlcR h.space (Qz h.roots i-1) b a=if b<0\/(if a then(r:Int) else d)<=b then(0,17) else(((adr (szS h.space) x.fr (p+fldK r b a):Nat):Int),0):=by
 have e:=X.H.sp.each x X.hx;obtain ⟨j,k,l,m⟩:=X.pos;unfold PlcR;rw[X.look,if_neg Os];unfold FnR FbR;dsimp only;by_cases c:b<0\/(if a=true then(r:Int) else d)<=b
 ·rw[if_pos c,if_pos c]
 ·rw[if_neg c,if_neg c];have f:p+fldK r b a<x.fr.length*szS h.space:=by unfold fldK;cases a <;> simp at c ⊢ <;> omega
  have g:((if a=true then(1:Int) else 1+(r:Int))+b)=(fldK r b a:Int):=by unfold fldK;cases a <;> simp at c ⊢ <;> omega
  rw[g,X.e,show ((adr (szS h.space) x.fr p:Nat):Int)+1-1=((adr (szS h.space) x.fr p:Nat):Int) by omega,go_adr X.H.sp.ok.shp e.inc.ch e.inc.own (p:=p) Oo,if_pos f]
theorem QbQ.place(X:QbQ h BL i x p r d)(c:¬ h.dead=true){b:Int}(f:I64 b)(a:Bool):Je h (Qz h.roots i-1) b a=some (PlcR h.space (Qz h.roots i-1) b a):=by have g:=X.lt;have e:=X.e;refine Gd.eq ?_;unfold Je;refine .neg c (.call (is_c X.H X.obj.1 X.obj.2) (.pos rfl ?_));exact .call (place_c X.H.sp.ok.shp (Q2 X.H.sp.ok.fm) X.H.sp.w (by unfold I64;omega) f a) (.some rfl)
theorem QbQ.fld(X:QbQ h BL i x p r d){b:Int}{a:Bool}(c:¬ (b<0\/(if a then(r:Int) else d)<=b)):FldX h BL x p r d (fldK r b a):=by refine ⟨X.H,X.hx,X.hp,?_,?_⟩ <;> (unfold fldK;cases a <;> simp at c ⊢ <;> omega)
end
theorem wrd_ref(H:QQ h BL){a:Int}(c:Qf7 h.roots a false=0):U64 (Qd4 h.roots a)/\RefW (szS h.space) BL.flatten (Qd4 h.roots a)/\Qd4 h.roots a<=h.space.ws.length/\0<=a/\a<=32:=by
 rcases hdlE_0 c with ⟨rfl,_⟩ | ⟨i,rfl,f,b⟩
 ·unfold Qd4;rw[if_pos rfl];exact ⟨by unfold U64;omega,.inl rfl,Oo,Oo,Oo⟩
 ·obtain ⟨x,p,r,d,X⟩:=root_x H b;have:=X.lt;have e:=X.e;unfold Qd4;rw[if_neg Oo,show ((i+1:Nat):Int)-1=(i:Int) by omega,Wd];exact ⟨by unfold U64;omega,.inr ⟨Oo,r,d,X.obj.2⟩,Oo,Oo,Oo⟩
theorem wrd_i(i:Nat)(R:Rts):Qd4 R ((i+1:Nat):Int)=Qz R i:=by unfold Qd4;rw[if_neg Oo,show ((i+1:Nat):Int)-1=(i:Int) by omega,Wd]
def setW1(s:Sp)(q:Nat)(w:Int):Sp:=⟨s.sh,s.ws.set q w,s.fs⟩
def datH(h:Hp)(q w:Int):Hp:=⟨h.config,setW1 h.space q.toNat w,h.belts,h.seq,h.sets,h.roots,h.since,h.stats,h.dead⟩
def rfwH(h:Hp)(q w:Int):Hp:=⟨h.config,setW1 h.space q.toNat w,h.belts,h.seq,Qck (setW1 h.space q.toNat w) h.sets q w,h.roots,h.since,h.stats,h.dead⟩
theorem QbQ.wref{i:Nat}{x:Itm}{p r d:Nat}(X:QbQ h BL i x p r d)(w:¬ h.dead=true){b:Int}(A:I64 b)(g:(PlcR h.space (Qz h.roots i-1) b true).2=0){c:Int}(y:Qf7 h.roots c false=0) :
  Xp h (Qz h.roots i-1) b (Qd4 h.roots c)=some (rfwH h (PlcR h.space (Qz h.roots i-1) b true).1 (Qd4 h.roots c),0)/\QQ (rfwH h (PlcR h.space (Qz h.roots i-1) b true).1 (Qd4 h.roots c)) BL:=by
 obtain ⟨o,f,B,C,D⟩:=wrd_ref X.H y;have q:=XF X.H.sp.ok;have a:=X.plc b true;have e:¬ (b<0\/(if true then(r:Int) else d)<=b):=λk=>by rw[a,if_pos k]at g;cases g
 have F:=X.fld e;have j:fldK r b true<=r:=by unfold fldK;simp at e ⊢;omega
 rw[if_neg e]at a;have s:=F.ref j o f;have l:=F.lt;have t:rfwH h (PlcR h.space (Qz h.roots i-1) b true).1 (Qd4 h.roots c)=refH h x p (fldK r b true) (Qd4 h.roots c):=by unfold rfwH refH Qfk setW1;rw[a,Wd]
 refine ⟨Gd.eq ?_,by rw[t];exact s⟩;unfold Xp;refine .call (X.place w A true) ?_;refine .neg (by rw[g];omega) ?_;refine Gd.bind (P:=λz=>z=0) ?_ λz v=>?_
 ·refine .ite (λk=>.some g) λk=>.neg (by rw[Xg Oo];omega) ?_;have k:¬ Qd4 h.roots c=0:=k;rcases f with f | ⟨f,E,G,u⟩
  ·exact absurd f k
  ·rw[Xg Oo,Qb Oo];exact .call (is_c X.H Oo u) (.pos rfl (.some g))
 ·subst v;refine .pos rfl (.call (Qct X.H) ?_);have m:=F.sp o;have n:=note19_c m.ok X.H.sok (X.H.sok.sz X.H.sin) (p:=((adr (szS h.space) x.fr (p+fldK r b true):Nat):Int)) o;rw[a];refine .atN l ?_;rw[Wd];refine .call n (.some ?_);unfold rfwH Qfk setW1;rw[Wd]
theorem QbQ.wdat{i:Nat}{x:Itm}{p r d:Nat}(X:QbQ h BL i x p r d)(l:¬ h.dead=true){b:Int}(n:I64 b)(g:(PlcR h.space (Qz h.roots i-1) b false).2=0){w:Int}(m:U64 w) :
  Z9 h (Qz h.roots i-1) b w=some (datH h (PlcR h.space (Qz h.roots i-1) b false).1 w,0)/\QQ (datH h (PlcR h.space (Qz h.roots i-1) b false).1 w) BL:=by
 have a:=X.plc b false;have c:¬ (b<0\/(if false then(r:Int) else d)<=b):=λk=>by rw[a,if_pos k]at g;cases g
 have F:=X.fld c;have e:r<fldK r b false:=by unfold fldK;simp at c ⊢;omega
 rw[if_neg c]at a;have j:=F.data e m h.since h.stats h.dead;have f:=F.lt;refine ⟨Gd.eq ?_,?_⟩
 ·unfold Z9;refine .call (X.place l n false) (.pos g (.call (Qct X.H) ?_));unfold datH setW1;rw[a];refine .atN f (.some rfl)
 ·unfold datH setW1;rw[a];exact j
end
def rtsH(h:Hp)(R:Rts):Hp:=⟨h.config,h.space,h.belts,h.seq,h.sets,R,h.since,h.stats,h.dead⟩
def plcD(h:Hp)(o:AOp):Int×Int:=PlcR h.space (Qd4 h.roots o.a-1) o.b (decide (o.code=2\/o.code=3))
def fldD(h:Hp)(o:AOp):Hp×Ans := if (plcD h o).2=0 then(if o.code=4 then(h,⟨0,wAt h.space (plcD h o).1⟩) else if o.code=2 then(if wAt h.space (plcD h o).1=0 then(h,⟨0,0⟩) else if (ZY h.roots).length=32 then(h,⟨15,0⟩) else(rtsH h (takE h.roots (wAt h.space (plcD h o).1)).1,⟨0,(takE h.roots (wAt h.space (plcD h o).1)).2.1⟩)) else if o.code=3 then(if Qf7 h.roots o.c_ false=0 then(rfwH h (plcD h o).1 (Qd4 h.roots o.c_),⟨0,0⟩) else(h,⟨Qf7 h.roots o.c_ false,0⟩)) else(datH h (plcD h o).1 (wu o.c_),⟨0,0⟩)) else(h,⟨(plcD h o).2,0⟩)
def doR(h:Hp)(o:AOp):Hp×Ans := if o.code<1\/10<o.code then(h,⟨if h.dead=true/\¬ o.code=0 then 19 else 20,0⟩) else if h.dead=true then(h,⟨19,0⟩) else if o.code=1 then alcD h o.a o.b else if o.code=8 then((Qd5 0 300 (cntH h h.since) ⟨0,false,0⟩).1,⟨0,0⟩) else if o.code=10 then(h,⟨0,wu (sumW h.belts.flatten)⟩) else if o.code=6 then(if Qf7 h.roots o.a false=0 then(if Qf7 h.roots o.b false=0 then(h,⟨0,if Qd4 h.roots o.a=Qd4 h.roots o.b then 1 else 0⟩) else(h,⟨Qf7 h.roots o.b false,0⟩)) else(h,⟨Qf7 h.roots o.a false,0⟩)) else if Qf7 h.roots o.a true=0 then(if o.code=7 then(rtsH h (drpR h.roots (o.a-1).toNat),⟨0,0⟩) else if o.code=9 then(h,⟨0,wu (256*(Qy h.space (Qd4 h.roots o.a-1)).r+(Qy h.space (Qd4 h.roots o.a-1)).d)⟩) else fldD h o) else(h,⟨Qf7 h.roots o.a true,0⟩)
structure OpI(o:AOp):Prop where
 b:I64 o.b
section
variable{h:Hp}{BL:List (List Itm)}
theorem fld_c(H:QQ h BL)(D:¬ h.dead=true){o:AOp}(B:OpI o)(I:Qf7 h.roots o.a true=0)(O:o.code=2\/o.code=3\/o.code=4\/o.code=5):J7 h o=some (fldD h o):=by
 obtain ⟨i,ei,hi,hl⟩:∃ i:Nat,o.a=((i+1:Nat):Int)/\i<32/\i∈ZY h.roots:=by
  rcases hdlE_0 I with ⟨_,k⟩ | k
  ·cases k
  ·exact k
 obtain ⟨x,p,r,d,X⟩:=root_x H hl;have C:Qd4 h.roots o.a=Qz h.roots i:=by rw[ei];exact wrd_i i _
 have E:=X.lt;have J:=H.sp.each x X.hx;have K:=X.e;have w:QN h o.a=some (Qz h.roots i):=by rw[Qd7 H.rts Oo,C]
 have e:w64 (w64 (Qz h.roots i)-1)=Qz h.roots i-1:=by rw[Qb (n:=Qz h.roots i) Oo,Qb Oo]
 have s:=λc=>place_c H.sp.ok.shp (Q2 H.sp.ok.fm) H.sp.w (a:=Qz h.roots i-1) (by unfold I64;omega) B.b c;have t:∀ c,(PlcR h.space (Qz h.roots i-1) o.b c).2=0->∃ q:Nat,(PlcR h.space (Qz h.roots i-1) o.b c).1=(q:Int)/\q<h.space.ws.length:=λc b=>by
  have l:=X.plc o.b c;have u:¬ (o.b<0\/(if c then(r:Int) else d)<=o.b):=λk=>by rw[l,if_pos k]at b;cases b
  rw[if_neg u]at l;exact ⟨_,by rw[l],(X.fld u).lt⟩
 refine Gd.eq ?_;unfold J7 fldD plcD;rw[C];refine .ite (λf=>?_) λf=>?_
 ·have f:o.code=2:=f;have y:decide (o.code=2\/o.code=3)=true:=decide_eq_true (.inl f);rw[y];refine .call w ?_;rw[e];refine .call (s true) ?_;refine .ite (λb=>?_) λb=>?_
  ·have b:(PlcR h.space (Qz h.roots i-1) o.b true).2=0:=b;obtain ⟨q,m,v⟩:=t true b;rw[if_pos b,if_neg Oo,if_pos f,m];rw[Xh (Wa v)];refine .atN v (.neg Oo ?_);refine .ite (λk=>.some (by rw[if_pos k])) λk=>?_;rw[if_neg k];refine .call (full28_c H.rts) (.ite (λz=>.some (by rw[if_pos (of_decide_eq_true z)])) λz=>?_);rw[if_neg (λk=>z (decide_eq_true k))];refine .call (Qct H) (.call (take20_c H.rts _) (.some ?_));have:=takE_rng h.roots H.rts.u h.space.ws[q];rw[Xg Oo];rfl
  ·have b:¬ (PlcR h.space (Qz h.roots i-1) o.b true).2=0:=b;rw[if_neg b];exact .some rfl
 ·have f:¬ o.code=2:=f;have y:decide (o.code=2\/o.code=3)=decide (o.code=3):=by rw[decide_eq_decide];exact ⟨λk=>k.resolve_left f,.inr⟩
  rw[y];refine .call w ?_;rw[e];refine .call (s _) ?_;refine .ite (λb=>?_) λb=>?_
  ·have b:(PlcR h.space (Qz h.roots i-1) o.b (decide (o.code=3))).2=0:=b;obtain ⟨q,m,v⟩:=t _ b;rw[if_pos b,m];refine .atN v (.ite (λA=>?_) λA=>?_)
   ·rw[if_pos A,Xh (Wa v)];exact .some rfl
   ·rw[if_neg A,if_neg f];refine .ite (λg=>?_) λg=>?_
    ·have g:o.code=3:=g;rw[if_pos g];rw[decide_eq_true g]at b m;refine .call (Qdt H.rts _ _) (.ite (λj=>?_) λj=>?_)
     ·have j:Qf7 h.roots o.c_ false=0:=j;rw[if_pos j];obtain ⟨L,M,N,F,G⟩:=wrd_ref H j;refine .call w (.call (Qd7 H.rts ⟨F,G⟩) ?_);rw[e];refine .call (X.wref D B.b b j).1 (.some ?_);rw[m]
     ·have j:¬ Qf7 h.roots o.c_ false=0:=j;rw[if_neg j];exact .some rfl
    ·have g:¬ o.code=3:=g;rw[if_neg g];rw[decide_eq_false g]at b m;refine .call w ?_;rw[e];refine .call (X.wdat D B.b b (wu_u _)).1 (.some ?_);rw[m]
  ·have b:¬ (PlcR h.space (Qz h.roots i-1) o.b (decide (o.code=3))).2=0:=b;rw[if_neg b];exact .some rfl
end
section
variable{h:Hp}{BL:List (List Itm)}
theorem hdl_i{R:Rts}{a:Int}(b:Qf7 R a true=0):∃ i:Nat,a=((i+1:Nat):Int)/\i<32/\i∈ZY R:=by
 rcases hdlE_0 b with ⟨_,k⟩ | k
 ·cases k
 ·exact k
theorem collect_c(H:QQ h BL)(b:h.seq+256<=4294967294)(a:¬ h.dead=true):XT h=some ((Qd5 0 300 (cntH h h.since) ⟨0,false,0⟩).1,(Qd5 0 300 (cntH h h.since) ⟨0,false,0⟩).2,0):=by refine Gd.eq ?_;unfold XT;refine .neg a ?_;have:=full_c (H.cnt h.since ⟨h.stats.allocated,h.stats.objects,w64 (h.stats.collections+1),h.stats.steps,h.stats.rounds,h.stats.condemned,h.stats.copied,h.stats.entries,h.stats.work⟩ h.dead) (by show h.seq+256<=_;omega);exact .call this (.some rfl)
set_option maxHeartbeats 1000000 in
theorem do28_c(H:QQ h BL)(N:h.seq+257<=4294967294){o:AOp}(M:OpI o):Qb5 h o=some (doR h o):=by
 refine Gd.eq ?_;unfold Qb5 doR;have no:∀ e,Qu h e=some (h,⟨e,0⟩):=λ_=>rfl;have b:∀ {K:Option (Hp×Ans)},(o.code<1\/10<o.code)->Gd (λx=>x=(h,⟨if h.dead=true/\¬ o.code=0 then 19 else 20,0⟩)) (if h.dead=true then
   (if o.code=0 then((Qu h 20).bind λy=>some ((y.1,y.2))) else(Qu h 19).bind λz=>some ((z.1,z.2)))
   else(Qu h 20).bind λA=>some ((A.1,A.2))):=λ_=>by
  refine .ite (λk=>.ite (λj=>?_) λj=>?_) λk=>?_
  ·exact .call (no 20) (.some (by rw[if_neg λq=>q.2 j]))
  ·exact .call (no 19) (.some (by rw[if_pos ⟨k,j⟩]))
  ·exact .call (no 20) (.some (by rw[if_neg λq=>k q.1]))
 refine .ite (λk=>?_) λv=>.ite (λk=>?_) λj=>?_
 ·have k:o.code<1:=k;rw[if_pos (.inl k)];exact b (K:=none) (.inl k)
 ·have k:10<o.code:=k;rw[if_pos (.inr k)];exact b (K:=none) (.inr k)
 have v:¬ o.code<1:=v;have j:¬ 10<o.code:=j;rw[if_neg Oo];refine .ite (λf=>?_) λf=>?_
 ·rw[if_pos f];exact .call (no 19) (.some rfl)
 have f:¬ h.dead=true:=f;rw[if_neg f];refine .ite (λk=>?_) λk=>?_
 ·rw[if_pos k];exact .call (alcD_c H N f o) (.some rfl)
 rw[if_neg k];refine .ite (λl=>?_) λl=>?_
 ·rw[if_pos l];exact .call (collect_c H Oo f) (.some rfl)
 rw[if_neg l];refine .ite (λc=>?_) λc=>?_
 ·rw[if_pos c];have:Xq h=some (sumW h.belts.flatten):=by unfold Xq;rw[words11_c H.bsz H.wd];rfl
  exact .call this (.some rfl)
 rw[if_neg c];refine .ite (λm=>?_) λm=>?_
 ·rw[if_pos m];refine .call (Qdt H.rts _ _) (.ite (λa=>?_) λa=>?_)
  ·have a:Qf7 h.roots o.a false=0:=a;rw[if_pos a];refine .call (Qdt H.rts _ _) (.ite (λg=>?_) λg=>?_)
   ·have g:Qf7 h.roots o.b false=0:=g;rw[if_pos g];obtain ⟨_,_,_,F,G⟩:=wrd_ref H a;obtain ⟨_,_,_,I,J⟩:=wrd_ref H g;refine .call (Qd7 H.rts ⟨F,G⟩) (.call (Qd7 H.rts ⟨I,J⟩) ?_);have B:J6 (decide (Qd4 h.roots o.a=Qd4 h.roots o.b))=some (if Qd4 h.roots o.a=Qd4 h.roots o.b then 1 else 0):=by
     unfold J6;by_cases e:Qd4 h.roots o.a=Qd4 h.roots o.b
     ·rw[if_pos (decide_eq_true e),if_pos e]
     ·rw[if_neg (by simpa using e),if_neg e]
    exact .call B (.some rfl)
   ·have g:¬ Qf7 h.roots o.b false=0:=g;rw[if_neg g];exact .some rfl
  ·have a:¬ Qf7 h.roots o.a false=0:=a;rw[if_neg a];exact .some rfl
 rw[if_neg m];refine .call (Qdt H.rts _ _) (.ite (λa=>?_) λa=>?_)
 ·have a:Qf7 h.roots o.a true=0:=a;rw[if_pos a];obtain ⟨i,u,L,w⟩:=hdl_i a;obtain ⟨x,p,r,d,X⟩:=root_x H w;have C:Qd4 h.roots o.a=Qz h.roots i:=by rw[u];exact wrd_i i _
  have D:=X.lt;have O:=X.e;have E:=X.pos;refine .ite (λs=>?_) λs=>?_
  ·rw[if_pos s];refine .call (Qct H) ?_;have:=drop20_c H.rts L w;rw[<- u]at this;refine .call this (.some ?_);rw[u,show ((i+1:Nat):Int)-1=(i:Int) by omega,Wd];rfl
  rw[if_neg s];refine .ite (λt=>?_) λt=>?_
  ·rw[if_pos t];refine .call (Qd7 H.rts Oo) ?_;rw[C,Qb (n:=Qz h.roots i) Oo,Qb (n:=Qz h.roots i-1) Oo];refine .call (look_c H.sp.ok.shp (Q2 H.sp.ok.fm) H.sp.w (by unfold I64;omega)) ?_;rw[X.look];dsimp only;rw[Qb (n:=256*(r:Int)) Oo,Qb Oo];exact .some rfl
  rw[if_neg t];refine .call (fld_c H f M a (by
   have k:¬ o.code=1:=k
   have l:¬ o.code=8:=l
   have c:¬ o.code=10:=c
   have m:¬ o.code=6:=m
   have s:¬ o.code=7:=s
   have t:¬ o.code=9:=t
   omega)) (.some rfl)
 ·have a:¬ Qf7 h.roots o.a true=0:=a;rw[if_neg a];exact .some rfl
theorem rnd_out(H:QQ h BL)(f:h.seq+256<=4294967294):OpOut h ((Qd5 0 300 (cntH h h.since) ⟨0,false,0⟩).1,⟨0,0⟩):=by obtain ⟨b,c,d,e,a⟩:=rnd_inv (H.cnt h.since ⟨h.stats.allocated,h.stats.objects,w64 (h.stats.collections+1),h.stats.steps,h.stats.rounds,h.stats.condemned,h.stats.copied,h.stats.entries,h.stats.work⟩ h.dead) (by show h.seq+256<=_;omega) 0;have a:(Qd5 0 300 (cntH h h.since) ⟨0,false,0⟩).1.seq<=h.seq+256:=a;exact ⟨b,c,d,e,by show (Qd5 0 300 (cntH h h.since) ⟨0,false,0⟩).1.seq<=_;omega⟩
theorem do_ok(H:QQ h BL)(C:h.seq+257<=4294967294){o:AOp}:(doR h o).2.err=18\/OpOut h (doR h o):=by
 have e:=λa=>OpOut.same H a;unfold doR;split
 ·exact .inr (e _)
 split
 ·exact .inr (e _)
 rename_i hd;split
 ·exact alcD_ok H C hd _ _
 split
 ·exact .inr (rnd_out H Oo)
 split
 ·exact .inr (e _)
 split
 ·split
  ·split
   ·exact .inr (e _)
   ·exact .inr (e _)
  ·exact .inr (e _)
 split
 ·rename_i ha;obtain ⟨i,q,y,z⟩:=hdl_i ha;obtain ⟨x,p,r,d,X⟩:=root_x H z;have s:Qd4 h.roots o.a=Qz h.roots i:=by rw[q];exact wrd_i i _
  have t:=X.lt;right;split
  ·rw[q,show ((i+1:Nat):Int)-1=(i:Int) by omega,Wd];exact ⟨⟨BL,H.dropH y _ _ _⟩,rfl,rfl,Vo _,by show h.seq<=_;omega⟩
  split
  ·exact e _
  ·unfold fldD;split
   ·rename_i h0;unfold plcD at h0 ⊢;rw[s]at h0 ⊢;split
    ·exact e _
    split
    ·rename_i k2;rw[decide_eq_true (.inl k2)]at h0 ⊢;split
     ·exact e _
     split
     ·exact e _
     ·rename_i hw hf;obtain ⟨j,A,B,_⟩:=frsI_some H.rts hf;have u:∀ w,(takE h.roots w).1=takR h.roots j w:=λw=>by unfold takE;rw[A]
      have b:=X.plc o.b true;have c:¬ (o.b<0\/(if true then(r:Int) else d)<=o.b):=λk=>by rw[b,if_pos k]at h0;cases h0
      have F:=X.fld c;have g:fldK r o.b true<=r:=by unfold fldK;simp at c ⊢;omega
      rw[if_neg c]at b;have l:=H.refs _ (F.slot g);have v:=Qfo H.sp.w ((adr (szS h.space) x.fr (p+fldK r o.b true):Nat):Int);rw[b]at hw ⊢;rcases l with l | ⟨m,D,E,n⟩
      ·exact absurd l hw
      ·refine ⟨⟨BL,?_⟩,rfl,rfl,Vo _,by show h.seq<=_;omega⟩;rw[u];exact H.take B m v n _ _ _
    split
    ·rename_i k2 k3;rw[decide_eq_true (.inr k3)]at h0 ⊢;split
     ·rename_i hc;by_cases f:I64 o.b
      ·exact ⟨⟨BL,(X.wref hd f h0 hc).2⟩,rfl,rfl,Vo _,by show h.seq<=_;omega⟩
      ·exfalso;have b:=X.plc o.b true;have c:¬ (o.b<0\/(if true then(r:Int) else d)<=o.b):=λk=>by rw[b,if_pos k]at h0;cases h0
       have:=X.pos;simp at c;unfold I64 at f;omega
     ·exact e _
    ·rename_i k4 k2 k3;rw[decide_eq_false (by rintro (k | k);exact k2 k;exact k3 k)]at h0 ⊢;have f:I64 o.b:=by
      have b:=X.plc o.b false;have c:¬ (o.b<0\/(if false then(r:Int) else d)<=o.b):=λk=>by rw[b,if_pos k]at h0;cases h0
      have:=X.pos;simp at c;unfold I64;omega
     exact ⟨⟨BL,(X.wdat hd f h0 (wu_u _)).2⟩,rfl,rfl,Vo _,by show h.seq<=_;omega⟩
   ·exact e _
 ·exact .inr (e _)
end
structure GOk(g:Gra):Prop where
 u:g.used.length=32
 v:g.roots.length=32
 n:g.nodes.length<=1000000
 t:∀ (i:Nat),g.used[i]?=some true->∃ k:Nat,g.roots[i]?=some (k:Int)/\k<g.nodes.length
 r:∀ nd∈g.nodes,nd.refs.length<=15/\nd.data.length<=32/\(∀ v∈nd.refs,v = -1\/(0<=v/\v<g.nodes.length))/\∀ x∈nd.data,U64 x
inductive Rch(g:Gra):Nat->Prop
 | root {i v:Nat}:g.used[i]?=some true->g.roots[i]?=some (v:Int)->Rch g v
 | edge {u v:Nat} {nd:Nod}:Rch g u->g.nodes[u]?=some nd->(v:Int)∈nd.refs->Rch g v
theorem GOk.rlt{g:Gra}(h:GOk g){v:Nat}(r:Rch g v):v<g.nodes.length:=by
 cases r with
 | root h1 h2 =>obtain ⟨k,e,a⟩:=h.t _ h1;rw[h2]at e;injection e with e;omega
 | edge h1 h2 h3 =>have:=(h.r _ (Wq h2)).2.2.1 _ h3;omega
structure MrkI(g:Gra)(bs:List Bool):Prop where
 len:bs.length=g.nodes.length
 snd:∀ v,bs[v]?=some true->Rch g v
theorem MrkI.set{g:Gra}{b:List Bool}(h:MrkI g b){v:Nat}(c:Rch g v):MrkI g (b.set v true):=by
 refine ⟨by rw[Ww];exact h.len,λw a=>?_⟩;rw[Up]at a;split at a
 ·rename_i e;rw[<- e];exact c
 ·exact h.snd w a
def MrkLe(a b:List Bool):Prop:=∀ v:Nat,a[v]?=some true->b[v]?=some true
theorem MrkLe.set(a:List Bool)(v:Nat):MrkLe a (a.set v true):=λw b=>by
 rw[Up];obtain ⟨c,_⟩:=Wo.1 b;split
 ·rename_i e;rw[if_pos Oo]
 ·exact b
theorem MrkLe.trans{a b c:List Bool}(h:MrkLe a b)(k:MrkLe b c):MrkLe a c:=λv d=>k v (h v d)
def RootsIn(g:Gra)(a:List Bool):Prop:=∀ (i v:Nat),g.used[i]?=some true->g.roots[i]?=some (v:Int)->a[v]?=some true
def NodeIn(a:List Bool)(i:Nat)(nd:Nod)(k:Nat):Prop:=a[i]?=some true->∀ j (h:j<nd.refs.length),j<k->∀ v:Nat,nd.refs[j]=(v:Int)->a[v]?=some true
def rchL(g:Gra):List Int:=((List.range g.nodes.length).filter λv=>bP (Rch g v)).map λ(v:Nat)=>(v:Int)
theorem mark_set{a:List Bool}{v:Nat}(b:v<a.length)(h:¬ a[v]=true):a.count true<(a.set v true).count true:=by
 rw[List.count_set b];have:(a[v] == true)=false:=by simpa using h
 simp[this]
theorem reach_c{g:Gra}(h:GOk g):J5 g=some (rchL g):=by
 have hu:=h.u;have u:=h.v;have hn:=h.n;refine Gd.eq ?_;unfold J5;refine .pos Oo ?_;refine Gd.bind (P:=λr=>MrkI g r/\RootsIn g r) ?_ λr B=>?_
 ·refine Gd.for g.used.length (λ(t:List Bool) i=>(t,i)) (λi t=>MrkI g t/\∀ (j v:Nat),j<i->g.used[j]?=some true->g.roots[j]?=some (v:Int)->t[v]?=some true) (List.replicate g.nodes.length false) (by rw[Wd]) (λ_ _=>rfl) Oo ⟨⟨W2,λv u=>by rw[V8]at u;split at u <;> cases u⟩,λj v A=>by omega⟩ (λi f t m=>?_) (λt m=>⟨m.1,λi v a o=>m.2 i v (Wo.1 a).1 a o⟩);refine .atN f (.ite (λk=>?_) λk=>.some (.inl ⟨t,rfl,m.1,λj v A a o=>?_⟩))
  ·have k:g.used[i]=true:=k;have J:g.used[i]?=some true:=by rw[Wa f,k]
   obtain ⟨w,e,hw⟩:=h.t i J;obtain ⟨hr,er⟩:=Wo.1 e;refine .atN hr ?_;rw[er];have K:w<t.length:=by rw[m.1.len];exact hw
   refine .atN K (.some (.inl ⟨t.set w true,by rw[Wd],m.1.set (.root J e),λj v A a o=>?_⟩));by_cases H:j=i
   ·subst H;rw[e]at o;injection o with o;have:w=v:=by omega
    subst this;rw[WN K]
   ·exact MrkLe.set t w v (m.2 j v Oo a o)
  ·have k:¬ g.used[i]=true:=k;by_cases H:j=i
   ·subst H;rw[Wa f]at a;injection a with a;exact absurd a k
   ·exact m.2 j v Oo a o
 refine Gd.bind (P:=λr=>MrkI g r/\∀ v,Rch g v->r[v]?=some true) ?_ λr B=>?_
 ·refine Gd.loop (λ(s:List Bool×Bool)=>MrkI g s.1/\RootsIn g s.1/\(s.2=false->∀ (i:Nat) (f:i<g.nodes.length),NodeIn s.1 i g.nodes[i] g.nodes[i].refs.length)) _ (λs=>2*(g.nodes.length-s.1.count true)+(if s.2=true then 1 else 0)) ⟨B.1,B.2,λe=>by cases e⟩ ?_;rintro ⟨c,O⟩ ⟨p,y,hb3⟩;dsimp only at p y hb3;refine .ite (λn=>?_) λn=>.out ⟨p,λv u=>?_⟩
  ·have n:O=true:=n;subst n;refine Gd.for g.nodes.length (λ(t:List Bool×Bool) i=>(t.1,t.2,i)) (λi t=>MrkI g t.1/\MrkLe c t.1/\(t.2=false->t.1=c/\∀ (k:Nat) (hk:k<g.nodes.length),k<i->NodeIn c k g.nodes[k] g.nodes[k].refs.length)/\(t.2=true->c.count true<t.1.count true)) (c,false) rfl (λ_ _=>rfl) Oo ⟨p,λ_ h=>h,λ_=>⟨rfl,λk _ hk=>by omega⟩,λe=>by cases e⟩ (λi f t m=>?_) (λt m=>?_)
   ·obtain ⟨S,Y,Q,Z⟩:=m;have ab:=h.r _ (Wc f);refine Gd.bind (P:=λb:List Bool×Bool=>MrkI g b.1/\MrkLe c b.1/\(b.2=false->b.1=c/\t.2=false/\NodeIn c i g.nodes[i] g.nodes[i].refs.length)/\(b.2=true->c.count true<b.1.count true)) ?_ λb z=>.some (.inl ⟨b,rfl,z.1,z.2.1,λe=>⟨(z.2.2.1 e).1,λk hk ad=>?_⟩,z.2.2.2⟩)
    ·refine .atN f ?_;refine Gd.for g.nodes[i].refs.length (λ(t:List Bool×Bool) i=>(t.1,t.2,i)) (λj b=>MrkI g b.1/\MrkLe c b.1/\(b.2=false->b.1=c/\t.2=false/\NodeIn c i g.nodes[i] j)/\(b.2=true->c.count true<b.1.count true)) t rfl (λ_ _=>rfl) Oo ⟨S,Y,λe=>⟨(Q e).1,e,λ_ j _ A=>by omega⟩,Z⟩ (λj A b z=>?_) (λb z=>z);obtain ⟨G,T,b3,U⟩:=z;have D:i<b.1.length:=by rw[G.len];exact f
     have x:(¬ b.1[i]=true\/(∀ v:Nat,g.nodes[i].refs[j]=(v:Int)->b.1[v]?=some true))->(b.2=false->b.1=c/\t.2=false/\NodeIn c i g.nodes[i] (j+1)):=λhk e=>by
      obtain ⟨I,R,e3⟩:=b3 e;refine ⟨I,R,λd j' aa ae v u=>?_⟩;by_cases H:j'=j
      ·subst H;rcases hk with hk | hk
       ·exfalso;rw[<- I,Wa D]at d;injection d with d;exact hk d
       ·rw[<- I];exact hk v u
      ·exact e3 d j' aa Oo v u
     refine .atN A (.atN D (.ite (λL=>?_) λL=>.some (.inl ⟨b,rfl,G,T,x (.inl L),U⟩)));have L:b.1[i]=true:=L;have V:Rch g i:=G.snd i (by rw[Wa D,L]);refine .ite (λM=>?_) λM=>.some (.inl ⟨b,rfl,G,T,x (.inr λv u=>by
      have M:¬ 0<=g.nodes[i].refs[j]:=M
      omega),U⟩)
     have M:0<=g.nodes[i].refs[j]:=M;obtain ⟨w,ew⟩:∃ w:Nat,g.nodes[i].refs[j]=(w:Int):=⟨g.nodes[i].refs[j].toNat,Oo⟩;have N:Rch g w:=.edge V (Wa f) (ew▸Wc A);have E:w<b.1.length:=by rw[G.len];exact h.rlt N
     rw[ew];refine .atN E (.ite (λF=>.some (.inl ⟨b,rfl,G,T,x (.inr λv u=>?_),U⟩)) λF=>.some (.inl ⟨(b.1.set w true,true),by rw[Wd],G.set N,T.trans (.set _ _),λe=>(by cases e),λ_=>?_⟩))
     ·have F:b.1[w]=true:=F;have:v=w:=by omega
      rw[this,Wa E,F]
     ·have F:¬ b.1[w]=true:=F;have a:=mark_set E F;show c.count true<(b.1.set w true).count true;by_cases e:b.2=true
      ·have:=U e;omega
      ·rw[(b3 (by simpa using e)).1]at a ⊢;exact a
    ·obtain ⟨I,R,e3⟩:=z.2.2.1 e;by_cases ek:k=i
     ·subst ek;exact e3
     ·exact (Q R).2 k hk Oo
   ·obtain ⟨S,Y,Q,Z⟩:=m;refine ⟨⟨S,λi v a o=>Y v (y i v a o),λe k hk=>?_⟩,?_⟩
    ·obtain ⟨I,R⟩:=Q e;rw[I];exact R k hk hk
    ·show 2*(g.nodes.length-t.1.count true)+_<2*(g.nodes.length-c.count true)+_;have hc:t.1.count true<=g.nodes.length:=by rw[<- S.len];exact List.count_le_length
     by_cases e:t.2=true
     ·have:=Z e;simp only[e,if_true];omega
     ·rw[(Q (by simpa using e)).1];simp only[e,if_true];simp
  ·have n:O=false:=by simpa using n
   have W:=hb3 n;induction u with
   | root a o=>exact y _ _ a o
   | edge a o h3 ih =>obtain ⟨hl,e⟩:=Wo.1 o;subst e;obtain ⟨j,A,H⟩:=Us h3;exact W _ hl ih j A A _ H
 obtain ⟨p,y⟩:=B;have X:=p.len;have C:∀ (i:Nat) (f:i<r.length),r[i]=true<->Rch g i:=λi f=>⟨λk=>p.snd i (by rw[Wa f,k]),λk=>by
  have:=y i k
  rw[Wa f]at this
  injection this⟩
 refine Gd.bind (P:=λb=>b=rchL g) ?_ λb z=>.some z;refine Gd.for r.length (λ(t:List Int) i=>(t,i)) (λi t=>t.length<=i/\t=((List.range i).filter λv=>bP (Rch g v)).map λ(v:Nat)=>(v:Int)) [] rfl (λ_ _=>rfl) Oo ⟨Os,rfl⟩ (λi f t m=>?_) (λt m=>by rw[m.2,X];rfl);have ac:=m.1;rw[Ur,W4,WP,<- m.2];refine .atN f (.ite (λk=>.pos (XP (l:=t) Oo Oo) (.some (.inl ⟨t++[(i:Int)],rfl,by rw[We,WJ];omega,?_⟩))) λk=>.some (.inl ⟨t,rfl,Oo,?_⟩))
 ·have k:r[i]=true:=k;simp[VB,Qa5 ((C i f).1 k)]
 ·have k:¬ r[i]=true:=k;simp[VB,Qfm (λq=>k ((C i f).2 q))]
def nodW(nd:Nod):Int:=1+(nd.refs.length:Int)+(nd.data.length:Int)
def livW(g:Gra):Int:=((rchL g).map λv=>((g.nodes[v.toNat]?).map nodW).getD 0).sum
theorem live29_c{g:Gra}(h:GOk g):QaK g=some (livW g):=by
 have m:=h.n;have f:(rchL g).length<=g.nodes.length:=by unfold rchL;rw[Wb];have:=W9 (λv=>bP (Rch g v)) (List.range g.nodes.length);rw[WS]at this;exact this
 have a:∀ i (d:i<(rchL g).length),∃ v:Nat,(rchL g)[i]=(v:Int)/\v<g.nodes.length:=λi d=>by have:=Wc d;obtain ⟨v,c,e⟩:=Wm.1 (show (rchL g)[i]∈((List.range g.nodes.length).filter λv=>bP (Rch g v)).map λ(v:Nat)=>(v:Int) from this);exact ⟨v,e.symm,WE.1 (WX.1 c).1⟩
 refine Gd.eq ?_;unfold QaK;refine Gd.bind (P:=λb=>b=livW g) ?_ λb l=>.some l;refine .call (reach_c h) ?_;refine Gd.fold (rchL g) (λ(t:Int) i=>(t,i)) (λt v=>t+((g.nodes[v.toNat]?).map nodW).getD 0) 0 (λi t=>0<=t/\t<=48*(i:Int)) rfl (λ_ _=>rfl) Oo ⟨Vo _,Oo⟩ (λi d t o=>?_) (λ_=>?_)
 ·obtain ⟨v,e,c⟩:=a i d;have j:=h.r _ (Wc c);rw[e,Wd,Wa c];have k:((some g.nodes[v]).map nodW).getD 0=1+(g.nodes[v].refs.length:Int)+(g.nodes[v].data.length:Int):=rfl;rw[k];refine ⟨⟨Oo,Oo⟩,.atN d ?_⟩;rw[e];refine .atN c (.some ?_);dsimp only;rw[Qb (n:=1+(g.nodes[v].refs.length:Int)) Oo,Qb (n:=1+(g.nodes[v].refs.length:Int)+(g.nodes[v].data.length:Int)) Oo,Qb (n:=t+_) Oo]
 ·show List.foldl _ 0 (rchL g)=livW g;unfold livW;rw[List.sum_eq_foldl,List.foldl_map]
theorem copy29_c{g:Gra}(h:GOk g):QaL g=some g:=by
 have f:=h.u;have j:=h.v;have k:=h.n;refine Gd.eq ?_;unfold QaL;refine .pos Oo (.pos Oo ?_);refine Gd.bind (P:=λb=>b=g.nodes) ?_ λb e=>.some (by rw[e]);refine Gd.for g.nodes.length (λ(t:List Nod) i=>(t,i)) (λi t=>t=g.nodes.take i) [] rfl (λ_ _=>rfl) Oo rfl (λi c t a=>?_) (λt a=>by rw[a,WQ]);have d:=h.r _ (Wc c);have l:t.length<=i:=by rw[a,Wf];omega
 refine .atN c (.pos Oo (.pos Oo (.pos (show ((t.length:Int)+1)*48<=140737488355328/\(t.length:Int)+1<=9223372036854775807 by omega) (.some (.inl ⟨t++[g.nodes[i]],rfl,?_⟩)))));rw[a,Vb c]
def frsG(g:Gra):Option Nat:=(List.range g.used.length).find? λi=>g.used[i]? == some false
def frsV:Option Nat->Int
 | some i=>((i+1:Nat):Int)
 | none=>0
theorem free29_c{g:Gra}(h:GOk g):JH g=some (frsV (frsG g)):=by
 have l:=h.u;refine Gd.eq ?_;unfold JH;refine Gd.bndR (P:=λz=>(z = .inl ()/\frsG g=none)\/(∃ i,z = .inr ((i+1:Nat):Int)/\frsG g=some i)) ?_ (λ_ a=>?_) (λr a=>?_)
 ·refine Gd.find g.used (λx=>x=false) Oo (λi b c=>?_) (λc=>.inl ⟨rfl,?_⟩)
  ·refine .atN b (.ite (λk=>.some (.inl ⟨by simp[show g.used[i]=true from k],rfl⟩)) λk=>?_);have k:¬ g.used[i]=true:=k;have d:g.used[i]=false:=by simpa using k
   refine .some (.inr ⟨d,_,rfl,.inr ⟨i,by rw[Qb Oo];rfl,?_⟩⟩);unfold frsG;rw[YL];refine ⟨by simp[Wa b,d],WE.2 b,λj f=>?_⟩;have:=c j Oo f;simp[Wa (show j<g.used.length by omega),this]
  ·unfold frsG;rw[Yf];intro i b;rw[WE]at b;have:=c _ (Wc b);simp[Wa b,this]
 ·rcases a with ⟨_,a⟩ | ⟨i,a,_⟩
  ·exact .some (by rw[a];rfl)
  ·cases a
 ·rcases a with ⟨a,_⟩ | ⟨i,a,e⟩
  ·cases a
  ·injection a with a;rw[e,a];rfl
theorem frsG_lt{g:Gra}(h:GOk g){i:Nat}(e:frsG g=some i):i<32:=by have:=WE.1 (Ug e);have:=h.u;omega
def QgJ(g:Gra)(a:Int)(nz:Bool):Int:=if a=0 then(if nz=true then 16 else 0) else if a<0\/32<a then 14 else if g.used[(a-1).toNat]?=some true then 0 else 14
theorem Qds{g:Gra}(h:GOk g)(a:Int)(nz:Bool):Zt g a nz=some (QgJ g a nz):=by
 have d:=h.u;refine Gd.eq ?_;unfold Zt QgJ;refine .ite (λb=>?_) λb=>?_
 ·rw[if_pos b];exact .ite (λk=>.some (by rw[if_pos k])) λk=>.some (by rw[if_neg k])
 ·rw[if_neg b];refine .ite (λk=>.some (by rw[if_pos (.inl k)])) λe=>.ite (λk=>.some (by rw[if_pos (.inr k)])) λf=>?_;rw[if_neg Oo,Qb Oo];obtain ⟨i,rfl⟩:∃ i:Nat,a=((i+1:Nat):Int):=⟨(a-1).toNat,Oo⟩;have c:i<g.used.length:=by omega
  rw[show ((i+1:Nat):Int)-1=(i:Int) by omega,Wd,Wa c];refine .atN c (.ite (λk=>.some (by rw[if_pos (by rw[show g.used[i]=true from k])])) λk=>.some (by rw[if_neg (by simpa using k)]))
theorem hdlG_0{g:Gra}{a:Int}{nz:Bool}(h:QgJ g a nz=0):(a=0/\nz=false)\/∃ i:Nat,a=((i+1:Nat):Int)/\i<32/\g.used[i]?=some true:=by
 unfold QgJ at h;split at h
 ·rename_i e;split at h
  ·cases h
  ·rename_i k;exact .inl ⟨e,by simpa using k⟩
 ·split at h
  ·cases h
  ·split at h
   ·rename_i k;exact .inr ⟨(a-1).toNat,Oo,Oo,k⟩
   ·cases h
def nodE(g:Gra)(a:Int):Int:=if a=0 then -1 else(g.roots[(a-1).toNat]?).getD 0
theorem Qdr{g:Gra}(h:GOk g){a:Int}(e:0<=a/\a<=32):Zs g a=some (nodE g a):=by
 have d:=h.v;refine Gd.eq ?_;unfold Zs nodE;refine .ite (λb=>.some (by rw[if_pos b])) λb=>?_;rw[if_neg b,Qb Oo];obtain ⟨i,rfl⟩:∃ i:Nat,a=((i+1:Nat):Int):=⟨(a-1).toNat,Oo⟩;have c:i<g.roots.length:=by omega
 rw[show ((i+1:Nat):Int)-1=(i:Int) by omega,Wd];refine .atN c (.some ?_);rw[Wa c];rfl
theorem nodE_i{g:Gra}(h:GOk g){i:Nat}(b:g.used[i]?=some true):∃ k:Nat,nodE g ((i+1:Nat):Int)=(k:Int)/\k<g.nodes.length:=by obtain ⟨k,e,a⟩:=h.t i b;refine ⟨k,?_,a⟩;unfold nodE;rw[if_neg Oo,show ((i+1:Nat):Int)-1=(i:Int) by omega,Wd,e];rfl
theorem QfX{g:Gra}(h:GOk g){a:Int}(c:QgJ g a false=0):(nodE g a = -1\/(0<=nodE g a/\nodE g a<g.nodes.length))/\0<=a/\a<=32:=by
 rcases hdlG_0 c with ⟨rfl,_⟩ | ⟨i,rfl,f,b⟩
 ·exact ⟨.inl (by unfold nodE;rw[if_pos rfl]),Oo,Oo⟩
 ·obtain ⟨k,e,d⟩:=nodE_i h b;exact ⟨.inr (by rw[e];omega),Oo,Oo⟩
def rotG(g:Gra)(v:Int):Option Nat->Gra×Ans
 | none=>(g,⟨15,0⟩)
 | some i=>(⟨g.nodes,g.used.set i true,g.roots.set i v⟩,⟨0,((i+1:Nat):Int)⟩)
def newG(g:Gra)(a b:Int):Option Nat->Gra×Ans
 | none=>(g,⟨15,0⟩)
 | some i=>(⟨g.nodes++[⟨List.replicate a.toNat (-1),List.replicate b.toNat 0⟩],g.used.set i true,g.roots.set i (g.nodes.length:Int)⟩,⟨0,((i+1:Nat):Int)⟩)
def nodG(g:Gra)(o:AOp)(n:Nat)(nd:Nod):Gra×Ans := if o.code=7 then(⟨g.nodes,g.used.set (o.a-1).toNat false,g.roots.set (o.a-1).toNat (-1)⟩,⟨0,0⟩) else if o.code=9 then(g,⟨0,wu (256*(nd.refs.length:Int)+(nd.data.length:Int))⟩) else if o.b<0\/(if o.code=2\/o.code=3 then(nd.refs.length:Int) else(nd.data.length:Int))<=o.b then(g,⟨17,0⟩) else if o.code=4 then(g,⟨0,(nd.data[o.b.toNat]?).getD 0⟩) else if o.code=5 then(⟨g.nodes.set n ⟨nd.refs,nd.data.set o.b.toNat (wu o.c_)⟩,g.used,g.roots⟩,⟨0,0⟩) else if o.code=3 then(if QgJ g o.c_ false=0 then(⟨g.nodes.set n ⟨nd.refs.set o.b.toNat (nodE g o.c_),nd.data⟩,g.used,g.roots⟩,⟨0,0⟩) else(g,⟨QgJ g o.c_ false,0⟩)) else if (nd.refs[o.b.toNat]?).getD 0 = -1 then(g,⟨0,0⟩) else rotG g ((nd.refs[o.b.toNat]?).getD 0) (frsG g)
def doG(g:Gra)(o:AOp):Gra×Ans := if o.code=1 then(if o.a<0\/15<o.a\/o.b<0\/32<o.b then(g,⟨13,0⟩) else newG g o.a o.b (frsG g)) else if o.code=8 then(g,⟨0,0⟩) else if o.code=10 then(g,⟨0,wu (livW g)⟩) else if o.code=6 then(if QgJ g o.a false=0 then(if QgJ g o.b false=0 then(g,⟨0,if nodE g o.a=nodE g o.b then 1 else 0⟩) else(g,⟨QgJ g o.b false,0⟩)) else(g,⟨QgJ g o.a false,0⟩)) else if o.code=7\/o.code=9\/o.code=2\/o.code=3\/o.code=4\/o.code=5 then(if QgJ g o.a true=0 then nodG g o (nodE g o.a).toNat ((g.nodes[(nodE g o.a).toNat]?).getD ⟨[],[]⟩) else(g,⟨QgJ g o.a true,0⟩)) else(g,⟨20,0⟩)
set_option maxHeartbeats 1000000 in
theorem do29_c{g:Gra}(h:GOk g)(o:AOp):Qb4 g o=some (doG g o):=by
  have Q:=h.u;have R:=h.v;have S:=h.n;have a:∀ e,Qx g e=some (g,⟨e,0⟩):=λ_=>rfl;refine Gd.eq ?_;unfold Qb4 doG;refine .call (copy29_c h) ?_;refine Gd.bndR (P:=λz=>(z = .inl ()/\(o.code=7\/o.code=9\/o.code=2\/o.code=3\/o.code=4\/o.code=5))\/z = .inr (doG g o)) ?_ (λ_ hP=>?_) (λr hP=>?_)
  · refine .ite (λp=>?_) λp=>?_
    · have p:o.code=1:=p
      have c:doG g o=if o.a<0\/15<o.a\/o.b<0\/32<o.b then(g,⟨13,0⟩)
        else newG g o.a o.b (frsG g):=by
        unfold doG;rw[if_pos p]
      refine .ite (λk=>.call (a 13) (.some (.inr (by rw[c,if_pos (.inl k)])))) λU=>?_
      refine .ite (λk=>.call (a 13) (.some (.inr (by rw[c,if_pos (.inr (.inl k))])))) λF=>?_
      refine .ite (λk=>.call (a 13) (.some (.inr (by rw[c,if_pos (.inr (.inr (.inl k)))])))) λD=>?_
      refine .ite (λk=>.call (a 13) (.some (.inr (by rw[c,if_pos (.inr (.inr (.inr k)))])))) λV=>?_
      rw[if_neg Oo]at c
      refine .call (free29_c h) ?_
      cases e:frsG g with
      | none =>
        rw[e]at c
        exact .pos rfl (.call (a 15) (.some (.inr (by rw[c];rfl))))
      | some i =>
        rw[e]at c
        have K:=frsG_lt h e
        have H:frsV (some i)=((i+1:Nat):Int):=rfl
        rw[H]
        refine .neg (by show ¬ ((i+1:Nat):Int)=0;omega) (.pos Oo ?_)
        refine Gd.bind (P:=λb:List Int=>b=List.replicate o.a.toNat (-1)) ?_ λb q=>?_
        · obtain ⟨n,C⟩:∃ n:Nat,o.a=(n:Int):=⟨o.a.toNat,Oo⟩
          rw[C,Wd]
          refine Gd.for n (λ(t:List Int) i=>(t,i)) (λi t=>t=List.replicate i (-1)) [] rfl (λ_ _=>rfl) Oo rfl (λj O t G=>?_) (λt G=>by rw[G])
          have T:t.length=j:=by rw[G,W2]
          refine .pos (XP (l:=t) Oo Oo) (.some (.inl ⟨t++[-1],rfl,?_⟩))
          rw[G,Yt]
        · subst q
          refine .pos Oo ?_
          rw[Qb Oo,show ((i+1:Nat):Int)-1=(i:Int) by omega]
          refine .atN Oo (.atN Oo (.some (.inr ?_)))
          rw[c]
          unfold newG
          dsimp only
          rw[We,WJ,Qb Oo,Wd,Xg (n:=((i+1:Nat):Int)) Oo,show ((g.nodes.length+1:Nat):Int)-1=(g.nodes.length:Int) by omega]
    have p:¬ o.code=1:=p
    refine .ite (λE=>.some (.inr (by unfold doG;rw[if_neg p,if_pos E]))) λE=>?_
    refine .ite (λw=>.call (live29_c h) (.some (.inr (by unfold doG;rw[if_neg p,if_neg E,if_pos w])))) λw=>?_
    refine .ite (λI=>?_) λI=>?_
    · have c:doG g o=if QgJ g o.a false=0 then
          (if QgJ g o.b false=0 then(g,⟨0,if nodE g o.a=nodE g o.b then 1 else 0⟩) else(g,⟨QgJ g o.b false,0⟩))
         else(g,⟨QgJ g o.a false,0⟩):=by unfold doG;rw[if_neg p,if_neg E,if_neg w,if_pos I]
      refine .call (Qds h _ _) (.ite (λd=>?_) λd=>.call (a _) (.some (.inr (by rw[c,if_neg d]))))
      have d:QgJ g o.a false=0:=d
      rw[if_pos d]at c
      refine .call (Qds h _ _) (.ite (λq=>?_) λq=>.call (a _) (.some (.inr (by rw[c,if_neg q]))))
      have q:QgJ g o.b false=0:=q
      rw[if_pos q]at c
      refine .call (Qdr h (QfX h d).2) (.call (Qdr h (QfX h q).2) ?_)
      exact .ite (λk=>.some (.inr (by rw[c,if_pos k]))) λk=>.some (.inr (by rw[c,if_neg k]))
    refine .ite (λk=>.some (.inl ⟨rfl,.inl k⟩)) λA=>.ite (λk=>.some (.inl ⟨rfl,.inr (.inl k)⟩)) λB=>.ite (λk=>.some (.inl ⟨rfl,.inr (.inr (.inl k))⟩)) λJ=>.ite (λk=>.some (.inl ⟨rfl,.inr (.inr (.inr (.inl k)))⟩)) λv=>.ite (λk=>.some (.inl ⟨rfl,.inr (.inr (.inr (.inr (.inl k))))⟩)) λs=>.ite (λk=>.some (.inl ⟨rfl,.inr (.inr (.inr (.inr (.inr k))))⟩)) λu=>.call (a 20) (.some (.inr ?_))
    unfold doG
    rw[if_neg p,if_neg E,if_neg w,if_neg I,if_neg]
    rintro (k | k | k | k | k | k)
    · exact A k
    · exact B k
    · exact J k
    · exact v k
    · exact s k
    · exact u k
  · rcases hP with ⟨_,y⟩ | hP
    · have c:doG g o=if QgJ g o.a true=0 then nodG g o (nodE g o.a).toNat ((g.nodes[(nodE g o.a).toNat]?).getD ⟨[],[]⟩) else(g,⟨QgJ g o.a true,0⟩):=by
        unfold doG
        rw[if_neg Oo,if_neg Oo,if_neg Oo,if_neg Oo,if_pos y]
      show Gd (λx=>x=doG g o) _
      rw[c]
      refine .call (Qds h _ _) (.ite (λd=>?_) λd=>.call (a _) (.some (by rw[if_neg d])))
      have d:QgJ g o.a true=0:=d
      rw[if_pos d]
      obtain ⟨i,ei,K,hui⟩:∃ i:Nat,o.a=((i+1:Nat):Int)/\i<32/\g.used[i]?=some true:=by
        rcases hdlG_0 d with ⟨_,k⟩ | k
        · cases k
        · exact k
      obtain ⟨n,C,f⟩:=nodE_i h hui
      rw[<- ei]at C
      have L:=h.r _ (Wc f)
      refine .call (Qdr h Oo) ?_
      rw[C,Wd,Wa f]
      refine .atN f ?_
      have M:o.a-1=(i:Int):=by omega
      unfold nodG
      refine .ite (λA=>?_) λA=>?_
      · rw[if_pos A,M,Qb Oo,Wd]
        exact .atN Oo (.atN Oo (.some rfl))
      have A:¬ o.code=7:=A
      rw[if_neg A]
      refine .ite (λB=>?_) λB=>?_
      · rw[if_pos B]
        refine .some ?_
        dsimp only[Option.getD_some]
        rw[Qb (n:=256*_) Oo,Qb (n:=256*(g.nodes[n].refs.length:Int)+_) Oo]
      have B:¬ o.code=9:=B
      rw[if_neg B]
      dsimp only[Option.getD_some]
      refine Gd.bind (P:=λb=>b=if o.code=2\/o.code=3 then(g.nodes[n].refs.length:Int) else(g.nodes[n].data.length:Int)) ?_ λb q=>?_
      · refine .ite (λk=>.some (by rw[if_pos (.inl k)])) λJ=>.ite (λk=>.some (by rw[if_pos (.inr k)])) λv=>.some (by rw[if_neg];rintro (k | k);exact J k;exact v k)
      subst q
      refine .ite (λk=>.call (a 17) (.some (by rw[if_pos (.inl k)]))) λF=>.ite (λk=>.call (a 17) (.some (by rw[if_pos (.inr k)]))) λD=>?_
      have F:¬ o.b<0:=F
      rw[if_neg (by rintro (k | k);exact F k;exact D k)]
      obtain ⟨m,em2⟩:∃ m:Nat,o.b=(m:Int):=⟨o.b.toNat,Oo⟩
      rw[em2,Wd]
      rw[em2]at D
      refine .ite (λs=>?_) λs=>?_
      · have s:o.code=4:=s
        rw[if_neg Oo]at D
        rw[if_pos s]
        refine .atN Oo (.some ?_)
        rw[Wa Oo];rfl
      have s:¬ o.code=4:=s
      rw[if_neg s]
      refine .ite (λu=>?_) λu=>?_
      · have u:o.code=5:=u
        rw[if_neg Oo]at D
        rw[if_pos u]
        refine .call (Qdr h Oo) ?_
        rw[C]
        exact .atN f (.atN Oo (.some rfl))
      have u:¬ o.code=5:=u
      rw[if_neg u]
      rw[if_pos Oo]at D
      refine .ite (λv=>?_) λv=>?_
      · rw[if_pos v]
        refine .call (Qds h _ _) (.ite (λy=>?_) λy=>.call (a _) (.some (by rw[if_neg y])))
        have y:QgJ g o.c_ false=0:=y
        rw[if_pos y]
        refine .call (Qdr h Oo) ?_
        rw[C]
        refine .atN f (.call (Qdr h (QfX h y).2) (.atN Oo (.some rfl)))
      have v:¬ o.code=3:=v
      rw[if_neg v]
      refine .atN Oo ?_
      have N:m<g.nodes[n].refs.length:=by omega
      simp only[Wa N,WG]
      refine .ite (λk=>.some (by rw[if_pos k])) λk=>?_
      rw[if_neg k]
      refine .call (free29_c h) ?_
      cases e:frsG g with
      | none=>exact .pos rfl (.call (a 15) (.some rfl))
      | some j =>
        have O:=frsG_lt h e
        have H:frsV (some j)=((j+1:Nat):Int):=rfl
        rw[H]
        refine .neg (by show ¬ ((j+1:Nat):Int)=0;omega) ?_
        rw[Qb Oo,show ((j+1:Nat):Int)-1=(j:Int) by omega]
        refine .atN Oo (.atN Oo (.some ?_))
        unfold rotG
        dsimp only
        rw[Wd,Xg (n:=((j+1:Nat):Int)) Oo]
    · cases hP
  · rcases hP with ⟨hP,_⟩ | hP
    · cases hP
    · injection hP with hP
theorem GOk.rot{g:Gra}(h:GOk g){i:Nat}(f:i<32){v:Int}(d:0<=v/\v<g.nodes.length):GOk ⟨g.nodes,g.used.set i true,g.roots.set i v⟩:=by
 have b:=h.u;have c:=h.v;refine ⟨by show (g.used.set i true).length=32;rw[Ww];exact b,by show (g.roots.set i v).length=32;rw[Ww];exact c,h.n,λj a=>?_,h.r⟩;have a:(g.used.set i true)[j]?=some true:=a;show ∃ k:Nat,(g.roots.set i v)[j]?=some (k:Int)/\k<g.nodes.length;by_cases e:i=j
 ·subst e;exact ⟨v.toNat,by rw[WN Oo];congr 1;omega,Oo⟩
 ·rw[WK e]at a ⊢;exact h.t j a
theorem GOk.node{g:Gra}(h:GOk g){n:Nat}{nd:Nod}(a:nd.refs.length<=15/\nd.data.length<=32/\(∀ v∈nd.refs,v = -1\/(0<=v/\v<g.nodes.length))/\∀ x∈nd.data,U64 x):GOk ⟨g.nodes.set n nd,g.used,g.roots⟩:=by
 refine ⟨h.u,h.v,by show (g.nodes.set n nd).length<=_;rw[Ww];exact h.n,λj b=>?_,λx c=>?_⟩
 ·show ∃ k:Nat,g.roots[j]?=some (k:Int)/\k<(g.nodes.set n nd).length;rw[Ww];exact h.t j b
 ·show x.refs.length<=15/\x.data.length<=32/\(∀ v∈x.refs,v = -1\/(0<=v/\v<(g.nodes.set n nd).length))/\_;rw[Ww];rcases WY c with k | k
  ·exact h.r x k
  ·rw[k];exact a
theorem GOk.drop{g:Gra}(h:GOk g)(i:Nat):GOk ⟨g.nodes,g.used.set i false,g.roots.set i (-1)⟩:=by
 have b:=h.u;have c:=h.v;refine ⟨by show (g.used.set i false).length=32;rw[Ww];exact b,by show (g.roots.set i (-1)).length=32;rw[Ww];exact c,h.n,λj a=>?_,h.r⟩;have a:(g.used.set i false)[j]?=some true:=a;show ∃ k:Nat,(g.roots.set i (-1))[j]?=some (k:Int)/\k<g.nodes.length;by_cases e:i=j
 ·subst e;rw[Up]at a;simp at a
 ·rw[WK e]at a ⊢;exact h.t j a
theorem GOk.more{g:Gra}(h:GOk g)(o:g.nodes.length<1000000){nd:Nod}(d:nd.refs.length<=15/\nd.data.length<=32/\(∀ v∈nd.refs,v = -1)/\∀ x∈nd.data,U64 x):GOk ⟨g.nodes++[nd],g.used,g.roots⟩:=by
 have i:(g.nodes++[nd]).length=g.nodes.length+1:=by rw[We,WJ]
 refine ⟨h.u,h.v,by show (g.nodes++[nd]).length<=_;omega,λj l=>?_,λx m=>?_⟩
 ·obtain ⟨k,e,n⟩:=h.t j l;exact ⟨k,e,by show k<(g.nodes++[nd]).length;omega⟩
 ·show x.refs.length<=15/\x.data.length<=32/\(∀ v∈x.refs,v = -1\/(0<=v/\v<((g.nodes++[nd]).length:Int)))/\_;rw[i];rcases Wk.1 m with k | k
  ·obtain ⟨a,b,c,e⟩:=h.r x k;exact ⟨a,b,λv f=>(c v f).imp id λq=>by omega,e⟩
  ·rw[Wn.1 k];exact ⟨d.1,d.2.1,λv f=>.inl (d.2.2.1 v f),d.2.2.2⟩
theorem rotG_ok{g:Gra}(h:GOk g){v:Int}(a:0<=v/\v<g.nodes.length):GOk (rotG g v (frsG g)).1/\(rotG g v (frsG g)).1.nodes=g.nodes:=by
 cases e:frsG g with
 | none=>exact ⟨h,rfl⟩
 | some i=>exact ⟨h.rot (frsG_lt h e) a,rfl⟩
theorem newG_ok{g:Gra}(h:GOk g)(l:g.nodes.length<1000000){a b:Int}(k:a<=15/\b<=32):GOk (newG g a b (frsG g)).1/\(newG g a b (frsG g)).1.nodes.length<=g.nodes.length+1:=by
 cases e:frsG g with
 | none=>exact ⟨h,by show g.nodes.length<=_;omega⟩
 | some i =>
  have d:=h.more l (nd:=⟨List.replicate a.toNat (-1),List.replicate b.toNat 0⟩) ⟨by rw[W2];omega,by rw[W2];omega,λv f=>(UU.1 f).2,λx j=>by rw[(UU.1 j).2];unfold U64;omega⟩;have c:(g.nodes++[(⟨List.replicate a.toNat (-1),List.replicate b.toNat 0⟩:Nod)]).length=g.nodes.length+1:=by rw[We,WJ]
  exact ⟨d.rot (frsG_lt h e) (v:=(g.nodes.length:Int)) ⟨Oo,by show (g.nodes.length:Int)<((g.nodes++[_]).length:Int);rw[c];omega⟩,by show (g.nodes++[_]).length<=_;rw[c];omega⟩
theorem doG_ok{g:Gra}(h:GOk g)(l:g.nodes.length<1000000)(o:AOp):GOk (doG g o).1/\(doG g o).1.nodes.length<=g.nodes.length+1:=by
 have a:GOk g/\g.nodes.length<=g.nodes.length+1:=⟨h,Oo⟩;unfold doG;split
 ·split
  ·exact a
  ·rename_i k;exact newG_ok h l ⟨Oo,Oo⟩
 split
 ·exact a
 split
 ·exact a
 split
 ·split
  ·split <;> exact a
  ·exact a
 split
 ·split
  ·rename_i ha;obtain ⟨i,ei,hi,hui⟩:∃ i:Nat,o.a=((i+1:Nat):Int)/\i<32/\g.used[i]?=some true:=by
    rcases hdlG_0 ha with ⟨_,k⟩ | k
    ·cases k
    ·exact k
   obtain ⟨n,j,c⟩:=nodE_i h hui;rw[<- ei]at j;have b:=h.r _ (Wc c);rw[j,Wd,Wa c];dsimp only[Option.getD_some];unfold nodG;split
   ·exact ⟨h.drop _,by show g.nodes.length<=_;omega⟩
   split
   ·exact a
   by_cases d:o.b<0\/(if o.code=2\/o.code=3 then(g.nodes[n].refs.length:Int) else(g.nodes[n].data.length:Int))<=o.b
   ·rw[if_pos d];exact a
   rw[if_neg d];split
   ·exact a
   split
   ·refine ⟨h.node ⟨b.1,by show (g.nodes[n].data.set _ _).length<=32;rw[Ww];exact b.2.1,b.2.2.1,λx e=>?_⟩,by show (g.nodes.set _ _).length<=_;rw[Ww];omega⟩;rcases WY e with k | k
    ·exact b.2.2.2 x k
    ·rw[k];exact wu_u _
   split
   ·split
    ·rename_i hc;refine ⟨h.node ⟨by show (g.nodes[n].refs.set _ _).length<=15;rw[Ww];exact b.1,b.2.1,λx e=>?_,b.2.2.2⟩,by show (g.nodes.set _ _).length<=_;rw[Ww];omega⟩;rcases WY e with k | k
     ·exact b.2.2.1 x k
     ·rw[k];exact (QfX h hc).1
    ·exact a
   ·split
    ·exact a
    ·rename_i k7 k9 k4 k5 k3 hv;have f:o.b.toNat<g.nodes[n].refs.length:=by rename_i hcode;rw[if_pos Oo]at d;omega
     rw[Wa f]at hv ⊢;dsimp only[Option.getD_some]at hv ⊢;have:=b.2.2.1 _ (Wc f);obtain ⟨r1,r2⟩:=rotG_ok h (this.resolve_left hv);exact ⟨r1,by rw[r2];omega⟩
  ·exact a
 ·exact a
theorem new29_c:∃ g,Qbj=some g/\GOk g/\g.nodes=[]/\∀ i:Nat,¬ g.used[i]?=some true:=by
 refine ⟨⟨[],List.replicate 32 false,List.replicate 32 (-1)⟩,Gd.eq ?_,?_,rfl,λi a=>?_⟩
 ·unfold Qbj;refine .pos Oo (.pos Oo ?_);refine Gd.bind (P:=λb=>b=List.replicate 32 (-1)) ?_ λb h=>.some (by rw[h];rfl);have e:(List.replicate (Int.toNat 32) (0:Int)).length=32:=by simp
  rw[e];refine Gd.for 32 (λ(t:List Int) i=>(t,i)) (λi t=>t=List.replicate i (-1)++List.replicate (32-i) 0) (List.replicate 32 0) rfl (λ_ _=>rfl) Oo Os (λi a t c=>?_) (λt c=>by rw[c];rfl);have f:t.length=32:=by rw[c,We,W2,W2];omega
  refine .atN (show i<t.length by omega) (.some (.inl ⟨t.set i (-1),by rw[Wd],?_⟩));rw[c,Yn _ _ (by rw[W2];exact Wl _),W2,V1,show 32-i=(31-i)+1 by omega,U8,List.set_cons_zero,Yt,WI,show 32-(i+1)=31-i by omega];rfl
 ·refine ⟨Os,Os,Os,λi a=>?_,λj d=>by cases d⟩;have a:(List.replicate 32 false)[i]?=some true:=a;rw[V8]at a;split at a <;> cases a
 ·have a:(List.replicate 32 false)[i]?=some true:=a;rw[V8]at a;split at a <;> cases a
theorem Ze{d:Qc}(h:XJ d){n:Int}(g:1<=n/\n<=9223372036854775807):Gd (λr=>(0<=r.1/\r.1<n)/\XJ r.2) (Qd d n):=by obtain ⟨v,a,e,b,c,f⟩:=next_spec h g;exact ⟨(v,a),e,⟨b,c⟩,f⟩
theorem op1_g{d:Qc}(h:XJ d){c:List Int}(g:∀ x∈c,0<=x/\x<=64)(i:c.length<=64):Gd (λr=>(0<=r.1/\r.1<=64)/\r.2.1=c/\r.2.2.1=c/\XJ r.2.2.2) (Zm c d):=by
 unfold Zm;refine .ite (λk=>?_) λk=>?_
 ·refine .bind (Ze h Oo) λr b=>.some ⟨Oo,rfl,rfl,b.2⟩
 ·refine .bind (Ze h Oo) λr b=>.ite (λf=>?_) λf=>?_
  ·refine .bind (Ze b.2 Oo) λr2 a=>.some ⟨Oo,rfl,rfl,a.2⟩
  ·refine .bind (Ze b.2 Oo) λr2 a=>?_;have e:=a.1;refine .at e.1 Oo (.some ⟨g _ (Wc _),rfl,rfl,a.2⟩)
theorem op_g{d:Qc}(h:XJ d){g:Gra}(N:GOk g):Gd (λr=>OpI r.1/\XJ r.2) (Qdj d g):=by
 have O:=N.u;unfold Qdj;refine Gd.bind (P:=λb:List Int=>(∀ x∈b,0<=x/\x<=64)/\b.length<=64) ?_ λc n=>?_
 ·refine Gd.for g.used.length (λ(t:List Int) i=>(t,i)) (λi t=>t.length<=i/\∀ x∈t,0<=x/\x<=64) [] rfl (λ_ _=>rfl) Oo ⟨Os,λx D=>by cases D⟩ (λi J t u=>?_) (λt u=>⟨u.2,by have:=u.1;show t.length<=64;omega⟩);have I:=u.1;refine .atN J (.ite (λk=>.pos (XP (l:=t) Oo Oo) (.some (.inl ⟨t++[w64 ((i:Int)+1)],rfl,by rw[We,WJ];omega,λx D=>?_⟩))) λk=>.some (.inl ⟨t,rfl,Oo,u.2⟩));rcases Wk.1 D with q | q
  ·exact u.2 x q
  ·rw[Wn.1 q,Qb Oo];omega
 refine .bind (Ze h Oo) λr13 f=>?_;have B:=f.1;refine .at B.1 (by simp only[W3,VN];omega) ?_;refine Gd.bind (P:=λ_=>True) ?_ λK _=>?_
 ·exact .ite (λ_=>.ite (λ_=>.some trivial) λ_=>.some trivial) λ_=>.some trivial
 refine .ite (λ_=>?_) λ_=>?_
 ·refine .bind (Ze f.2 Oo) λL E=>.bind (Ze E.2 Oo) λw z=>?_;have C:=z.1;refine Gd.bind (P:=λv=>1<=v/\v<=17) ?_ λv Q=>?_
  ·have G:w.1.toNat<([3,3,8,17]:List Int).length:=by simp only[W3,VN];omega
   have e:=at_int (l:=([3,3,8,17]:List Int)) C.1 G;refine ⟨_,e,?_⟩;have H:=Wc G;generalize ([3,3,8,17]:List Int)[w.1.toNat]=y at H;simp only[Wu,WV,or_false]at H;omega
  ·refine .bind (Ze z.2 Oo) λF A=>.some ⟨⟨?_⟩,A.2⟩;have:=A.1;show I64 F.1;unfold I64;omega
 refine Gd.bind (P:=λ_=>True) ?_ λM _=>?_
 ·exact .ite (λ_=>.some trivial) λ_=>.some trivial
 refine .ite (λ_=>?_) λ_=>.ite (λ_=>?_) λ_=>.ite (λ_=>?_) λ_=>.ite (λ_=>?_) λ_=>.ite (λ_=>?_) λ_=>.ite (λ_=>?_) λ_=>.some ⟨⟨by show I64 0;unfold I64;omega⟩,f.2⟩
 ·refine .bind (op1_g f.2 n.1 n.2) λo a=>.pos (by rw[a.2.2.1]) (.bind (Ze a.2.2.2 Oo) λp j=>.some ⟨⟨?_⟩,j.2⟩);have:=j.1;show I64 p.1;unfold I64;omega
 ·refine .bind (op1_g f.2 n.1 n.2) λo a=>.pos (by rw[a.2.2.1]) (.bind (Ze a.2.2.2 Oo) λp j=>?_);rw[a.2.2.1];refine .bind (op1_g j.2 n.1 n.2) λs m=>.pos (by rw[m.2.2.1]) (.some ⟨⟨?_⟩,m.2.2.2⟩);have:=j.1;show I64 p.1;unfold I64;omega
 ·refine .bind (op1_g f.2 n.1 n.2) λo a=>.pos (by rw[a.2.2.1]) (.bind (Ze a.2.2.2 Oo) λp j=>.bind (Ze j.2 Oo) λs m=>.some ⟨⟨?_⟩,m.2⟩);have:=j.1;show I64 p.1;unfold I64;omega
 ·refine .bind (op1_g f.2 n.1 n.2) λo a=>.pos (by rw[a.2.2.1]) ?_;rw[a.2.2.1];refine .bind (op1_g a.2.2.2 n.1 n.2) λs m=>.pos (by rw[m.2.2.1]) (.some ⟨⟨?_⟩,m.2.2.2⟩);have:=m.1;show I64 s.1;unfold I64;omega
 ·refine .bind (op1_g f.2 n.1 n.2) λo a=>.pos (by rw[a.2.2.1]) (.some ⟨⟨by show I64 0;unfold I64;omega⟩,a.2.2.2⟩)
 ·refine .bind (op1_g f.2 n.1 n.2) λo a=>.pos (by rw[a.2.2.1]) (.some ⟨⟨by show I64 0;unfold I64;omega⟩,a.2.2.2⟩)
def newH(c:Cfg)(k:Int)(n:Nat):Hp:=⟨c,newS k n,List.replicate c.rules.length [],0,[],⟨List.replicate 32 false,List.replicate 32 0⟩,0,⟨0,0,0,0,0,0,0,0,0⟩,false⟩
theorem flat_nil{α:Type}(n:Nat):(List.replicate n ([]:List α)).flatten=[]:=by rw[List.flatten_eq_nil_iff];exact λl a=>(UU.1 a).2
theorem newH_inv{c:Cfg}(p:QeE c){k:Int}{n:Nat}(r:QcQ k)(s:2<=n/\n<=64):QQ (newH c k n) (List.replicate c.rules.length []):=by
 have l:=flat_nil (α:=Itm) c.rules.length;have d:=new_inv r s;have g:∀ x,x∉(List.replicate c.rules.length ([]:List Itm)).flatten:=λx a=>by rw[l]at a;cases a
 have j:∀ q,¬ QaX (szS (newS k n)) (List.replicate c.rules.length ([]:List Itm)).flatten q:=λq e=>by rw[l]at e;obtain ⟨x,a,_⟩:=e;cases a
 refine ⟨p,?_,by rw[W2];rfl,by rw[l];exact d,λx a=>(g x a).elim,λb u x a=>?_,λq e=>by rw[(UU.1 e).2];exact YJ,λx a=>(g x a).elim,Vo _,⟨by simp[newH],by simp[newH],λi h m _=>?_,λx a=>by rw[(UU.1 a).2];unfold U64;omega⟩,λi d=>?_,λq e=>absurd e (j q),⟨λx a=>(by cases a),λi h=>absurd h (WT _)⟩,λx a=>(by cases a),λf t q e=>?_,λq e=>absurd e (j q),λ_=>?_⟩
 ·show List.replicate c.rules.length []=_;rw[US];rfl
 ·rw[Yj]at a;cases a
 ·have m:i<(List.replicate 32 (0:Int)).length:=m;show (List.replicate 32 (0:Int))[i]=0;rw[Yj]
 ·rw[Xj]at d;have d:(List.replicate 32 false)[i]?=some true:=d;rw[V8]at d;split at d <;> cases d
 ·obtain ⟨y,o,_⟩:=e;cases o
 ·have:Qk (newS k n).fs=List.range (newS k n).fs.length:=by unfold Qk;rw[VI];intro i d;rw[WE]at d;rw[Qcq d];simp[newS,feF]
  show 2*((newS k n).fs.length-(Qk (newS k n).fs).length)<=_;rw[this,WS];omega
theorem new27_c{c:Cfg}(a:QeE c){k n:Int}(d:QcQ k)(e:2<=n/\n<=64):Qbk c k n=some (newH c k n.toNat,0):=by
 have f:=a.len;refine Gd.eq ?_;unfold Qbk;refine .call (check_c a) (.pos rfl (.call (new_spec d e) (.pos rfl (.pos Oo (.pos Oo ?_)))));have b:Qbl=some ⟨List.replicate 32 false,List.replicate 32 0⟩:=by unfold Qbl;rw[if_pos Oo,if_pos Oo];rfl
 refine .call b (.some ?_);unfold newH;rw[Wd]
structure MadeOk(c:Cfg)(r:Hp×Gra×Qc):Prop where
 inv:∃ BL,QQ r.1 BL
 cfg:r.1.config=c
 ded:r.1.dead=false
 seq:r.1.seq<=20000
 gra:GOk r.2.1
 nod:r.2.1.nodes.length<=60
 dck:XJ r.2.2
theorem heapOf_g{c:Cfg}(t:QeE c){d:Qc}(B:XJ d):Gd (MadeOk c) (Qam d c):=by
 unfold Qam;refine Gd.bind (P:=λr=>(3<=r.1/\r.1<=4)/\(6<=r.2.1/\r.2.1<=20)/\XJ r.2.2) ?_ λr y=>?_
 ·unfold QbK;refine .bind (Ze B Oo) λr1 m=>.bind (Ze m.2 Oo) λr2 p=>.some ?_;have C:=m.1;have D:=p.1;refine ⟨?_,?_,p.2⟩
  ·show 3<=w64 (3+r1.1)/\w64 (3+r1.1)<=4;rw[Qb Oo];omega
  ·show 6<=w64 (6+r2.1)/\w64 (6+r2.1)<=20;rw[Qb Oo];omega
 have l:QcQ r.1:=by unfold QcQ;omega
 refine .call (new27_c t l Oo) ?_;obtain ⟨G,u,j,v,_⟩:=new29_c;refine .call u ?_;refine Gd.bind (P:=λb:Qc×Hp×Gra=>MadeOk c (b.2.1,b.2.2,b.1)) ?_ λb z=>.some z;refine .bind (Ze y.2.2 Oo) λr6 q=>?_;have E:=q.1;refine Gd.loop (λ(s:Qc×Hp×Gra×Int)=>XJ s.1/\(∃ BL,QQ s.2.1 BL)/\s.2.1.config=c/\s.2.1.dead=false/\GOk s.2.2.1/\(0<=s.2.2.2/\s.2.2.2<=55)/\s.2.1.seq<=257*(55-s.2.2.2)/\(s.2.2.1.nodes.length:Int)<=55-s.2.2.2) _ (λs=>s.2.2.2.toNat) ⟨q.2,⟨_,newH_inv t l Oo⟩,rfl,rfl,j,by dsimp only;rw[Qb Oo];omega,by show (0:Int)<=_;dsimp only;rw[Qb Oo];omega,by dsimp only;rw[v,Qb Oo];show (0:Int)<=_;omega⟩ ?_;rintro ⟨w,h,g,n⟩ ⟨i1,⟨BL,H⟩,i2,i3,i4,i5,i6,i7⟩;dsimp only at i1 H i2 i3 i4 i5 i6 i7;have fin:MadeOk c (h,g,w):=⟨⟨BL,H⟩,i2,i3,by show h.seq<=20000;omega,i4,by show g.nodes.length<=60;omega,i1⟩;refine .ite (λi=>?_) λi=>.out fin;have i:0<n:=i;refine .call rfl (.ite (λA=>?_) λA=>.out fin);refine .bind (op_g i1 i4) λo k=>?_;refine .call (do28_c H Oo k.1) ?_;have a:w64 (n-1)=n-1:=Qb Oo;refine .ite (λe=>.go ⟨k.2,⟨BL,H⟩,i2,i3,i4,by dsimp only;rw[a];omega,by dsimp only;rw[a];omega,by dsimp only;rw[a];omega⟩ (by dsimp only;rw[a];omega)) λe=>?_;have e:¬ (doR h o.1).2.err=18:=e
 have f:=(do_ok H Oo (o:=o.1)).resolve_left e;refine .call (do29_c i4 _) ?_;obtain ⟨x,I⟩:=doG_ok i4 Oo o.1;have F:=f.hi;refine .go ⟨k.2,f.inv,f.cfg.trans i2,f.ded.trans i3,x,by dsimp only;rw[a];omega,by dsimp only;rw[a];omega,by dsimp only;rw[a];omega⟩ (by dsimp only;rw[a];omega)
def pctB:Option (Nat×Int)->Bool
 | some (v,e)=>decide (e=0) && (Qfx .gtr v 0 && (Qfx .leq v 4607182418800017408 && !Qfx .eql v 0))
 | none=>false
theorem pct_all:((List.range 100).all λn=>pctB (ZH ((n+1:Nat):Int)))=true:=by decide +kernel
structure ShrX(x:Nat):Prop where
 ok:Qes x
 ne:¬ Qfx .eql x 0=true
theorem percent_c{p:Int}(f:1<=p/\p<=100):∃ v,ZH p=some (v,0)/\ShrX v:=by
 obtain ⟨n,rfl⟩:∃ n:Nat,p=((n+1:Nat):Int):=⟨(p-1).toNat,Oo⟩;have h:=WZ.1 pct_all n (WE.2 Oo);generalize ZH ((n+1:Nat):Int)=r at h;match r,h with
 | some (v,e),h =>have h:(decide (e=0) && (Qfx .gtr v 0 && (Qfx .leq v 4607182418800017408 && !Qfx .eql v 0)))=true:=h;rw[Vh,Vh,Vh]at h;obtain ⟨a,c,d,b⟩:=h;have a:=of_decide_eq_true a;subst a;exact ⟨v,rfl,.inr ⟨c,d⟩,λq=>by rw[q]at b;cases b⟩
 | none,h=>exact absurd h Od
def nmB(i:Nat)(c:Int):Bool:=(decide (97<=c) && decide (c<=122)) || (!decide (i=0) && (decide (c=45) || (decide (48<=c) && decide (c<=57))))
def nmA(s:ByteArray):Bool:=(List.range s.size).all λi=>match sAt s (i:Int) with | some c=>nmB i c | none=>false
theorem named_c{s:ByteArray}(h:(decide (1<=s.size) && decide (s.size<=16) && nmA s)=true):ZR s=some true:=by
 simp only[Vh,decide_eq_true_eq]at h;obtain ⟨⟨p,q⟩,f⟩:=h;refine Gd.eq ?_;unfold ZR;refine Gd.bndR (P:=λz=>z = .inl ()) ?_ (λ_ d=>.pos Oo (.some (decide_eq_true Oo))) (λr d=>by cases d);refine Gd.for s.size (λ(_:Unit) i=>i) (λi _=>True) () rfl (λ_ _=>rfl) Oo trivial (λi g t j=>?_) (λt j=>rfl);have b:=WZ.1 f i (WE.2 g);cases e:sAt s (i:Int) with
 | none=>rw[e]at b;cases b
 | some c =>
  rw[e]at b;unfold nmB at b;simp only[VO,Vh,decide_eq_true_eq,VF,decide_eq_false_iff_not]at b;have go:Gd (λa=>(∃ t':Unit,a=LS.go (β:=Unit ⊕ Bool) (w64 ((i:Int)+1))/\True)\/∃ o,a=LS.out o/\o = .inl ()) (some (LS.go (w64 ((i:Int)+1)))):=.some (.inl ⟨(),rfl,trivial⟩);refine .bind (P:=λv=>v=c) ⟨c,rfl,rfl⟩ λv k=>?_;subst k;refine .ite (λl=>.ite (λm=>go) λm=>?_) λl=>?_;all_goals
   refine .neg Oo (.ite (λn=>go) λn=>.neg Oo (.neg Oo go))
theorem names_ok:∀ s∈[(ByteArray.mk #[115,101,109,105,115,112,97,99,101]),(ByteArray.mk #[97,112,112,101,108]),(ByteArray.mk #[102,105,120,101,100]),(ByteArray.mk #[111,108,100,101,114,45,102,105,114,115,116]),(ByteArray.mk #[120,120]),(ByteArray.mk #[120,120,49,48,48]),(ByteArray.mk #[111,119,110])],(decide (1<=s.size) && decide (s.size<=16) && nmA s)=true:=by decide +kernel
structure RulI(n j:Nat)(r:Rul):Prop where
 shr:Qes r.share
 lim:0<=r.limit/\r.limit<=64
 bat:0<=r.batch/\r.batch<=64
 last:j+1=n->r.limit=0/\r.target=j
 next:j+1<n->r.target=j+1
def Qeu(x:Nat)(a:Int):Prop:=if Qfx .eql x 0=true then 1<=a/\a<=64 else a=0
structure OwnI(n b:Nat)(rs:List Rul)(full:Int):Prop where
 len:rs.length=b
 rule:∀ j (h:j<rs.length),RulI n j rs[j]
 fl:b<n->full=0
 fin:b=n->∀ h:n-1<rs.length,Qeu rs[n-1].share full
theorem OwnI.push{n b:Nat}{a:List Rul}{c f':Int}(h:OwnI n b a c){r:Rul}(l:RulI n b r)(m:b+1<n->f'=0)(i:b+1=n->Qeu r.share f'):OwnI n (b+1) (a++[r]) f':=by
 have d:=h.len;refine ⟨by rw[We,WJ,d],λj f=>?_,m,λe f=>?_⟩
 ·rw[We,WJ]at f;by_cases k:j<a.length
  ·rw[YK k];exact h.rule j k
  ·have:j=a.length:=by omega
   subst this;rw[U6 (Wl _)];simp only[V1,YU];rw[d];exact l
 ·have:=i e;have g:n-1=a.length:=by omega
  simp only[g];rw[U6 (Wl _)];simp only[V1,YU];exact this
theorem OwnI.cfg{n:Nat}{a:List Rul}{c:Int}(h:OwnI n n a c)(k:1<=n/\n<=4){s:ByteArray}(g:ZR s=some true):QeE ⟨s,a,c⟩:=by
 have i:=h.len;refine ⟨g,by show 1<=a.length/\a.length<=4;omega,λb d=>?_,λb j d=>?_,λd=>?_⟩
 ·have d:b<a.length:=d;have f:=h.rule b d;refine ⟨f.shr,f.lim,f.bat,λe=>f.last (by have:b+1=a.length:=e;omega),λe=>?_⟩;have e:b+1<a.length:=e;have:=f.next Oo;show (b:Int)<a[b].target/\a[b].target<(a.length:Int);omega
 ·have d:b<a.length:=d;refine ⟨b-1,by show b-1<a.length;omega,by show b-1+1<a.length;omega,?_⟩;have:=(h.rule (b-1) Oo).next Oo;show a[b-1].target=(b:Int);omega
 ·have:=h.fin rfl Oo;have e:a.length-1=n-1:=by omega
  show Qeu (a[a.length-1]'_).share c;simp only[e];exact this
theorem f00:Qfx .eql 0 0=true:=by decide +kernel
theorem full0{f:Int}(h:1<=f/\f<=64):Qeu 0 f:=by unfold Qeu;rw[if_pos f00];exact h
theorem fullX{x:Nat}(h:ShrX x):Qeu x 0:=by unfold Qeu;rw[if_neg h.ne]
theorem own0{n:Nat}(a:1<=n):OwnI n 0 [] 0:=⟨rfl,λj h=>absurd h (WT _),λ_=>rfl,λe=>by omega⟩
theorem shr0:Qes 0:=.inl rfl
theorem Qar{n j:Nat}{x:Nat}{l b t:Int}(f:Qes x)(a:0<=l/\l<=64)(e:0<=b/\b<=64)(d:j+1=n->l=0/\t=j)(c:j+1<n->t=j+1):RulI n j ⟨x,l,b,t⟩:=⟨f,a,e,d,c⟩
theorem one_cfg{x:Nat}{b f:Int}(c:Qes x)(d:0<=b/\b<=64)(a:Qeu x f):OwnI 1 1 [⟨x,0,b,0⟩] f :=
 (own0 (Wl 1)).push (r:=⟨x,0,b,0⟩) (Qar c Oo d (λ_=>⟨rfl,rfl⟩) λh=>by omega) (λh=>by omega) λ_=>a
theorem two_cfg{x y:Nat}{l b a f:Int}(j:Qes x)(g:Qes y)(e:0<=l/\l<=64)(i:0<=b/\b<=64)(c:0<=a/\a<=64)(d:Qeu y f):OwnI 2 2 [⟨x,l,b,1⟩,⟨y,0,a,1⟩] f :=
 ((own0 Oo).push (r:=⟨x,l,b,1⟩) (f':=0) (Qar j e i (λh=>by omega) λ_=>rfl) (λ_=>rfl) λh=>by omega).push (r:=⟨y,0,a,1⟩) (Qar g Oo c (λ_=>⟨rfl,rfl⟩) λh=>by omega) (λh=>by omega) λ_=>d
theorem three_cfg{x y z:Nat}{b d a f:Int}(k:Qes x)(i:Qes y)(l:Qes z)(j:0<=b/\b<=64)(e:0<=d/\d<=64)(c:0<=a/\a<=64)(g:Qeu z f):OwnI 3 3 [⟨x,0,b,1⟩,⟨y,0,d,2⟩,⟨z,0,a,2⟩] f :=
 (((own0 Oo).push (r:=⟨x,0,b,1⟩) (f':=0) (Qar k Oo j (λh=>by omega) λ_=>rfl) (λ_=>rfl) λh=>by omega).push (r:=⟨y,0,d,2⟩) (f':=0) (Qar i Oo e (λh=>by omega) λ_=>rfl) (λ_=>rfl) λh=>by omega).push (r:=⟨z,0,a,2⟩) (Qar l Oo c (λ_=>⟨rfl,rfl⟩) λh=>by omega) (λh=>by omega) λ_=>g
def nameL:List ByteArray:=[(ByteArray.mk #[115,101,109,105,115,112,97,99,101]),(ByteArray.mk #[97,112,112,101,108]),(ByteArray.mk #[102,105,120,101,100]),(ByteArray.mk #[111,108,100,101,114,45,102,105,114,115,116]),(ByteArray.mk #[120,120]),(ByteArray.mk #[120,120,49,48,48])]
def nameB(i j:Nat):Bool:=match nameL[i]?,nameL[j]? with | some s,some t=>(s.toList == t.toList) == decide (i=j) | _,_=>false
theorem names_ne:((List.range 6).all λi=>(List.range 6).all λj=>nameB i j)=true:=by decide +kernel
theorem name_e{i j:Nat}{s t:ByteArray}(d:nameL[i]?=some s)(c:nameL[j]?=some t)(b:i<6)(a:j<6):(s.toList == t.toList)=decide (i=j):=by have h:=WZ.1 (WZ.1 names_ne i (WE.2 b)) j (WE.2 a);unfold nameB at h;rw[d,c]at h;simpa using h
theorem get_c{i:Nat}(n:i<6){s:ByteArray}(m:nameL[i]?=some s){p:Int}(w:1<=p/\p<=100):Gd (λr=>QeE r.1) (Qbn s p):=by
 obtain ⟨v,u,c⟩:=percent_c w;have d:ZR s=some true:=named_c (names_ok s (by
  have:=Wq m
  unfold nameL at this
  simp only[Wu,WV,or_false]at this ⊢
  rcases this with h | h | h | h | h | h <;> simp[h]))
 have a:∀ {j:Nat} {t:ByteArray},nameL[j]?=some t->j<6->i≠j->¬ (s.toList == t.toList)=true:=λ{j t} g k l q=>by rw[name_e m g n k]at q;exact l (of_decide_eq_true q)
 have e:∀ {t:ByteArray},nameL[i]?=some t->(s.toList == t.toList)=true:=λ{t} g=>by rw[name_e m g n n];exact decide_eq_true rfl
 unfold Qbn;refine .call u (.pos rfl ?_);have b:¬ p<1:=by omega
 have z:(0:Int)<=0/\(0:Int)<=64:=by omega
 have o:(0:Int)<=1/\(1:Int)<=64:=by omega
 have f:Qeu 0 8:=full0 Oo;rcases i with _ | _ | _ | _ | _ | _ | i
 ·exact .pos (e rfl) (.neg b (.some ((one_cfg shr0 z (full0 Oo)).cfg Oo d)))
 ·exact .neg (a (j:=0) rfl Oo Oo) (.pos (e rfl) (.neg b (.some ((two_cfg shr0 shr0 z z z f).cfg Oo d))))
 ·exact .neg (a (j:=0) rfl Oo Oo) (.neg (a (j:=1) rfl Oo Oo) (.pos (e rfl) (.neg b (.some ((two_cfg c.ok shr0 o z z f).cfg Oo d)))))
 ·exact .neg (a (j:=0) rfl Oo Oo) (.neg (a (j:=1) rfl Oo Oo) (.neg (a (j:=2) rfl Oo Oo) (.pos (e rfl) (.neg b (.some ((one_cfg c.ok o (fullX c)).cfg Oo d))))))
 ·exact .neg (a (j:=0) rfl Oo Oo) (.neg (a (j:=1) rfl Oo Oo) (.neg (a (j:=2) rfl Oo Oo) (.neg (a (j:=3) rfl Oo Oo) (.pos (e rfl) (.neg b (.some ((two_cfg c.ok c.ok z o o (fullX c)).cfg Oo d)))))))
 ·exact .neg (a (j:=0) rfl Oo Oo) (.neg (a (j:=1) rfl Oo Oo) (.neg (a (j:=2) rfl Oo Oo) (.neg (a (j:=3) rfl Oo Oo) (.neg (a (j:=4) rfl Oo Oo) (.pos (e rfl) (.neg b (.some ((three_cfg c.ok c.ok shr0 o o z f).cfg Oo d))))))))
 ·omega
theorem QeE.more{c:Cfg}(h:QeE c)(d:0<c.full){f:Int}(b:1<=f/\f<=64):QeE ⟨c.name,c.rules,f⟩:=by
 refine ⟨h.name,h.len,h.rule,h.aim,λa=>?_⟩;have:=h.full a;split at this
 ·rename_i e;show if _ then _ else _;rw[if_pos e];exact b
 ·omega
theorem shares_ok:∀ x∈[4602678819172646912,4593671619917905920,4607182418800017408,4599676419421066581,4562254508917369340],(Qfx .gtr x 0 && Qfx .leq x 4607182418800017408)=true:=by decide +kernel
theorem share_g{d:Qc}(h:XJ d):Gd (λr=>Qes r.1/\XJ r.2) (QaS d):=by
 unfold QaS;refine .bind (Ze h Oo) λr1 e=>.ite (λ_=>?_) λ_=>?_
 ·refine .bind (Ze e.2 Oo) λr2 a=>?_;have b:=a.1;have c:r2.1.toNat<([4602678819172646912,4593671619917905920,4607182418800017408,4599676419421066581,4562254508917369340]:List Nat).length:=by simp only[W3,VN];omega
  refine .at b.1 c (.some ⟨?_,a.2⟩);have:=shares_ok _ (Wc c);rw[Vh]at this;exact .inr this
 ·refine .bind (Ze e.2 Oo) λr2 a=>?_;have b:=a.1;rw[Qb Oo];obtain ⟨v,f,g⟩:=percent_c (p:=1+r2.1) Oo;exact .call f (.some ⟨g.ok,a.2⟩)
def OwnS(n:Nat)(s:Qc×List Rul×Int×Int):Prop:=XJ s.1/\∃ b:Nat,s.2.2.2=(b:Int)/\b<=n/\OwnI n b s.2.1 s.2.2.1
def OwnQ(n:Nat)(b:Qc×List Rul×Int):Prop:=XJ b.1/\OwnI n n b.2.1 b.2.2
theorem Qgx{n b:Nat}{d:Qc}{a:List Rul}{f f':Int}{r:Rul}{m:Nat}(p:n<=4)(o:b<n)(h:OwnI n b a f)(c:XJ d)(i:RulI n b r)(j:b+1<n->f'=0)(g:b+1=n->Qeu r.share f')(l:n-b=m) :
  Gd (LSP (OwnS n) (OwnQ n) (λs=>n-s.2.2.2.toNat) m) (if ((a.length:Int)+([r]:List Rul).length)*32<=140737488355328/\(a.length:Int)+([r]:List Rul).length<=9223372036854775807 then some (LS.go (d,a++[r],f',w64 ((b:Int)+1))) else none):=by
 have k:=h.len;have e:w64 ((b:Int)+1)=((b+1:Nat):Int):=by rw[Qb Oo];push_cast;rfl
 rw[e];refine .pos (by rw[WJ];omega) (.go ⟨c,b+1,rfl,Oo,h.push i j g⟩ ?_);show n-(((b+1:Nat):Int)).toNat<m;rw[Wd];omega
set_option maxHeartbeats 1000000 in
theorem config_g{d:Qc}(z:XJ d):Gd (λr=>QeE r.1/\XJ r.2) (Qan d):=by
 unfold Qan;refine .bind (Ze z Oo) λr2 J=>.ite (λ_=>?_) λ_=>?_
 ·refine .call (show Qa9=some nameL from rfl) (.bind (Ze J.2 Oo) λr5 K=>?_);have M:=K.1;have I:r5.1.toNat<nameL.length:=by show r5.1.toNat<6;omega
  refine .at M.1 I (.bind (Ze K.2 Oo) λr7 L=>.bind (Ze L.2 Oo) λr8 D=>?_);have X:=L.1;have N:=D.1;rw[Qb (n:=1+r7.1) Oo];have q:r8.1.toNat<([10,15,25,30,50,1+r7.1]:List Int).length:=by simp only[W3,VN];omega
  refine .at N.1 q ?_;have O:1<=([10,15,25,30,50,1+r7.1]:List Int)[r8.1.toNat]/\([10,15,25,30,50,1+r7.1]:List Int)[r8.1.toNat]<=100:=by have o:=Wc q;generalize ([10,15,25,30,50,1+r7.1]:List Int)[r8.1.toNat]=y at o;simp only[Wu,WV,or_false]at o;omega
  refine .bind (get_c (i:=r5.1.toNat) Oo (Wa I) O) λr10 u=>.ite (λT=>?_) λ_=>.some ⟨u,D.2⟩;refine .bind (Ze D.2 Oo) λr13 v=>.some ⟨?_,v.2⟩;have Q:=v.1;rw[Qb Oo];exact u.more T Oo
 ·refine .bind (Ze J.2 Oo) λr14 w=>?_;have R:=w.1;rw[Qb (n:=1+r14.1) Oo];obtain ⟨n,en⟩:∃ n:Nat,1+r14.1=(n:Int):=⟨(1+r14.1).toNat,Oo⟩;rw[en];have t:1<=n:=by omega
  have c:n<=4:=by omega
  rw[Qb (n:=(n:Int)-1) Oo];refine Gd.bind (P:=OwnQ n) ?_ λb e=>.some ⟨e.2.cfg ⟨t,c⟩ (named_c (names_ok _ Os)),e.1⟩;refine Gd.loop (OwnS n) (OwnQ n) (λs=>n-s.2.2.2.toNat) ⟨w.2,0,rfl,Oo,own0 t⟩ ?_;rintro ⟨d,Y,f,i⟩ ⟨z,b,eb,hbn,hI⟩;dsimp only at z eb hI ⊢;subst eb;refine .ite (λe=>?_) λe=>.out ⟨z,?_⟩
  ·have e:b<n:=by omega
   have j:=hI.fl e;have o:n-b=n-((b:Nat):Int).toNat:=by rw[Wd]
   have A:w64 ((b:Int)+1)=((b+1:Nat):Int):=by rw[Qb Oo];push_cast;rfl
   refine .bind (Ze z Oo) λU x=>.bind (Ze x.2 Oo) λV p=>?_;have S:=x.1;refine .ite (λ_=>?_) λ_=>?_
   ·refine .bind (share_g p.2) λW g=>.ite (λa=>?_) λa=>?_
    ·have a:(b:Int)<(n:Int)-1:=a;refine .bind (Ze g.2 Oo) λE k=>.ite (λ_=>?_) λ_=>?_
     ·refine .bind (Ze k.2 Oo) λF l=>.neg Oo ?_;have B:=l.1;refine Qgx c e hI l.2 ?_ (λ_=>j) (λh=>by omega) o;exact Qar g.1 (by rw[Qb Oo];omega) Oo (λh=>by omega) λ_=>by rw[A];push_cast;rfl
     ·refine .neg Oo (Qgx c e hI k.2 ?_ (λ_=>j) (λh=>by omega) o);exact Qar g.1 Oo Oo (λh=>by omega) λ_=>by rw[A];push_cast;rfl
    ·have a:¬ (b:Int)<(n:Int)-1:=a;refine .pos Oo (.ite (λG=>?_) λG=>?_)
     ·refine .bind (Ze g.2 Oo) λH m=>?_;have C:=m.1;refine Qgx c e hI m.2 (Qar g.1 Oo Oo (λ_=>⟨rfl,rfl⟩) λh=>by omega) (λh=>by omega) (λ_=>?_) o;rw[Qb Oo];unfold Qeu;rw[if_pos G];omega
     ·refine Qgx c e hI g.2 (Qar g.1 Oo Oo (λ_=>⟨rfl,rfl⟩) λh=>by omega) (λh=>by omega) (λ_=>?_) o;unfold Qeu;rw[if_neg G];exact j
   ·refine .ite (λa=>?_) λa=>?_
    ·have a:(b:Int)<(n:Int)-1:=a;refine .bind (Ze p.2 Oo) λE k=>.ite (λ_=>?_) λ_=>?_
     ·refine .bind (Ze k.2 Oo) λF l=>.neg Oo ?_;have B:=l.1;refine Qgx c e hI l.2 ?_ (λ_=>j) (λh=>by omega) o;exact Qar shr0 (by rw[Qb Oo];omega) Oo (λh=>by omega) λ_=>by rw[A];push_cast;rfl
     ·refine .neg Oo (Qgx c e hI k.2 ?_ (λ_=>j) (λh=>by omega) o);exact Qar shr0 Oo Oo (λh=>by omega) λ_=>by rw[A];push_cast;rfl
    ·have a:¬ (b:Int)<(n:Int)-1:=a;refine .pos Oo ?_;refine .bind (Ze p.2 Oo) λH m=>?_;have C:=m.1;refine Qgx c e hI m.2 (Qar shr0 Oo Oo (λ_=>⟨rfl,rfl⟩) λh=>by omega) (λh=>by omega) (λ_=>full0 ?_) o;rw[Qb Oo];omega
  ·have e:¬ (b:Int)<n:=e;have:b=n:=by omega
   subst this;exact hI
theorem heap_g{d:Qc}(e:XJ d):Gd (λr=>∃ c,MadeOk c r) (Qbs d):=by unfold Qbs;refine .bind (config_g e) λr1 a=>.bind (heapOf_g a.1 a.2) λr2 b=>.some ⟨_,b⟩
theorem low_bit:∀ (m:Nat),0<m->∃ j q,m=2^(j+1)*q+2^j
 | m,h=>by
  by_cases e:m%2=1
  ·exact ⟨0,m/2,by simp;omega⟩
  ·obtain ⟨j,q,a⟩:=low_bit (m/2) Oo;refine ⟨j+1,q,?_⟩;have:m=2*(m/2):=by omega
   rw[this,a,Nat.mul_add,<- Nat.mul_assoc,<- Nat.pow_succ',<- Nat.pow_succ']
theorem bit_at(j q i:Nat):(2^(j+1)*q+2^j).testBit i=if i<=j then decide (i=j) else q.testBit (i-(j+1)):=by
 rw[Yy _ (U2 Oo Oo)];by_cases h:i<j+1
 ·rw[if_pos h,if_pos Oo,U9];by_cases e:i=j
  ·rw[decide_eq_true e,decide_eq_true e.symm]
  ·rw[decide_eq_false e,decide_eq_false (λk=>e k.symm)]
 ·rw[if_neg h,if_neg Oo]
theorem bit_pred(j q i:Nat):(2^(j+1)*q+2^j-1).testBit i=if i<=j then decide (i<j) else q.testBit (i-(j+1)):=by
 have a:=Yv j;rw[Nat.add_sub_assoc a,Yy _ (by rw[Nat.pow_succ];omega)];by_cases h:i<j+1
 ·rw[if_pos h,if_pos Oo,Nat.testBit_two_pow_sub_one]
 ·rw[if_neg h,if_neg Oo]
theorem and_pred(j q i:Nat):((2^(j+1)*q+2^j) &&& (2^(j+1)*q+2^j-1)).testBit i=((2^(j+1)*q+2^j).testBit i && !decide (i=j)):=by
 rw[Nat.testBit_and,bit_at,bit_pred];by_cases h:i<=j
 ·rw[if_pos h,if_pos h];by_cases e:i=j
  ·simp[e]
  ·simp[e]
 ·rw[if_neg h,if_neg h];have:¬ i=j:=by omega
  simp[this]
theorem and_neg{j q:Nat}(h:2^(j+1)*q+2^j<2^64):(2^(j+1)*q+2^j) &&& (2^64-(2^(j+1)*q+2^j))=2^j:=by
 have d:=Yv j;apply Nat.eq_of_testBit_eq;intro i;have e:2^64-(2^(j+1)*q+2^j)=2^64-((2^(j+1)*q+2^j-1)+1):=by omega
 rw[Nat.testBit_and,e,Nat.testBit_two_pow_sub_succ Oo,bit_pred,bit_at,U9];have b:j<64:=by refine (YM (a:=2) Oo).1 ?_;omega
 by_cases h:i<=j
 ·rw[if_pos h,if_pos h];by_cases e:i=j
  ·subst e;simp[b]
  ·have:¬ j=i:=λk=>e k.symm;simp[e,this]
 ·rw[if_neg h,if_neg h];have:¬ j=i:=by omega
  by_cases c:q.testBit (i-(j+1))=true <;> simp[c,this]
theorem tab_all:((List.range 64).all λj=>tabL[(2^j*285870213051353865%18446744073709551616)/288230376151711744]? == some (j:Int))=true:=by decide +kernel
theorem low_lt{j q:Nat}(h:2^(j+1)*q+2^j<18446744073709551616):j<64:=by refine (YM (a:=2) Oo).1 ?_;omega
theorem wu_nat{n:Nat}(h:n<=18446744073709551615):wu (n:Int)=n:=Xg Oo
theorem wu_mod(n:Nat):wu (n:Int)=((n%18446744073709551616:Nat):Int):=by unfold wu;rw[IntKind.wrap_u64];omega
theorem tz_c{j q:Nat}(h:2^(j+1)*q+2^j<18446744073709551616):Q1 ((2^(j+1)*q+2^j:Nat):Int)=some (j:Int):=by
 have k:=Yv j;have c:=low_lt h;refine Gd.eq ?_;unfold Q1;refine .neg Oo ?_;have d:wu (0-((2^(j+1)*q+2^j:Nat):Int))=((2^64-(2^(j+1)*q+2^j):Nat):Int):=by unfold wu;rw[IntKind.wrap_u64];omega
 rw[d,(Qgg h Oo).1,and_neg h];have f:((2^j:Nat):Int)*285870213051353865=((2^j*285870213051353865:Nat):Int):=(YV (2^j) 285870213051353865).symm;rw[f,wu_mod];have g:QbV .u64 ((2^j*285870213051353865%18446744073709551616:Nat):Int) 58=((2^j*285870213051353865%18446744073709551616/288230376151711744:Nat):Int):=by have:=shru (a:=((2^j*285870213051353865%18446744073709551616:Nat):Int)) (j:=58) Oo Oo;rw[show ((58:Nat):Int)=58 from rfl]at this;rw[this];generalize 2^j*285870213051353865%18446744073709551616=x;rw[show (2:Int)^58=((288230376151711744:Nat):Int) from by decide];exact (Uv x 288230376151711744).symm
 rw[g];have b:=WZ.1 tab_all j (WE.2 c);simp only[beq_iff_eq]at b;generalize 2^j*285870213051353865%18446744073709551616/288230376151711744=x at b;obtain ⟨i,e⟩:=Wo.1 b;refine .atN i (.some ?_);rw[e];exact Qb Oo
theorem filter_low{p:Nat->Bool}{j:Nat}(e:p j=true)(c:∀ i,i<j->p i=false):∀ n,(List.range n).filter p=if j<n then j :: (List.range n).filter (λi=>p i && !decide (i=j)) else []
 | 0=>by rw[if_neg Oo];rfl
 | n+1=>by
  rw[Ur,W4,W4,filter_low e c n];by_cases a:j<n
  ·have:¬ n=j:=by omega
   rw[if_pos a,if_pos Oo,List.cons_append];simp[VB,this]
  ·by_cases b:n=j
   ·subst b;rw[if_neg a,if_pos Oo,V3];have:(List.range n).filter (λi=>p i && !decide (i=n))=[]:=by rw[Uu];intro i d;rw[WE]at d;simp[c i d]
    rw[this];simp[VB,e]
   ·rw[if_neg a,if_neg Oo,V3];simp[VB,c n Oo]
theorem QgQ{p:Nat->Bool}{a:Nat}(h:∀ i,a<=i->p i=false):∀ d,(List.range (a+d)).filter p=(List.range a).filter p
 | 0=>rfl
 | d+1=>by rw[<- Vg,Ur,W4,QgQ h d];simp[VB,h (a+d) Oo]
structure MskP(fs:List Fe)(l:List Inc)(m:Nat):Prop where
 lt:m<18446744073709551616
 bit:∀ j,m.testBit j=isC fs l j
theorem set_c{s:Sp}(z:s.fs.length<=64){l:List Inc}(A:l.length<=9223372036854775806):∃ m:Nat,Qbb s l=some (m:Int)/\MskP s.fs l m:=by
 suffices h:Gd (λr:Int=>∃ m:Nat,r=(m:Int)/\MskP s.fs l m) (Qbb s l) by obtain ⟨r,x,m,rfl,y⟩:=h;exact ⟨m,x,y⟩
 unfold Qbb;refine Gd.bind (P:=λr:Int=>∃ m:Nat,r=(m:Int)/\MskP s.fs l m) ?_ λb a=>.some a;refine Gd.for s.fs.length (λ(t:Int) i=>(t,i)) (λi t=>∃ m:Nat,t=(m:Int)/\m<18446744073709551616/\∀ j,m.testBit j=(decide (j<i) && isC s.fs l j)) 0 rfl (λ_ _=>rfl) Oo ⟨0,rfl,Oo,λj=>by simp⟩ (λi v t f=>?_) (λt f=>?_)
 ·obtain ⟨p,rfl,c,a⟩:=f;refine Gd.bind (P:=λr:Int=>∃ m:Nat,r=(m:Int)/\m<18446744073709551616/\∀ j,m.testBit j=(decide (j<i+1) && isC s.fs l j)) ?_ λb a=>.some (.inl ⟨b,rfl,a⟩);refine .atN v ?_;refine Gd.for l.length (λ(t:Int) i=>(t,i)) (λk t=>∃ m:Nat,t=(m:Int)/\m<18446744073709551616/\∀ j,m.testBit j=((decide (j<i) && isC s.fs l j) || (decide (j=i) && decide (s.fs[i].ow∈(l.take k).map Inc.seq)))) (p:Int) rfl (λ_ _=>rfl) Oo ⟨p,rfl,c,λj=>by rw[a j];simp⟩ (λk w t f=>?_) (λt f=>?_)
  ·obtain ⟨m,rfl,c,a⟩:=f;have g:(l.take (k+1)).map Inc.seq=(l.take k).map Inc.seq++[l[k].seq]:=by rw[Vb w,WP];rfl
   refine .atN w (.ite (λe=>?_) λe=>?_)
   ·have e:s.fs[i].ow=l[k].seq:=e;refine .pos Oo (.pos (wu_u _).1 ?_);have o:(2:Nat)^i<18446744073709551616:=by have:(2:Nat)^i<2^64:=U2 Oo Oo;exact this
    rw[wu_nat (n:=i) Oo,shlu1 Oo,show (2:Int)^i=((2^i:Nat):Int) from (Int.natCast_pow 2 i).symm,(Qgg c o).2];refine .some (.inl ⟨((m ||| 2^i:Nat):Int),rfl,m ||| 2^i,rfl,?_,λj=>?_⟩)
    ·have:m ||| 2^i<2^64:=YH c o;exact this
    ·rw[Nat.testBit_or,a j,U9,g];by_cases d:j=i
     ·subst d;simp[e]
     ·have:¬ i=j:=λq=>d q.symm;simp[d,this]
   ·have e:¬ s.fs[i].ow=l[k].seq:=e;refine .some (.inl ⟨(m:Int),rfl,m,rfl,c,λj=>?_⟩);rw[a j,g];simp[e]
  ·obtain ⟨m,rfl,c,a⟩:=f;refine ⟨m,rfl,c,λj=>?_⟩;rw[a j,WQ];by_cases d:j=i
   ·subst d;rw[Qee v];simp
   ·by_cases u:j<i
    ·simp[u,d,show j<i+1 by omega]
    ·simp[u,d,show ¬ j<i+1 by omega]
 ·obtain ⟨m,rfl,c,a⟩:=f;refine ⟨m,rfl,c,λj=>?_⟩;rw[a j];by_cases e:j<s.fs.length
  ·simp[e]
  ·have:isC s.fs l j=false:=by
    cases h:isC s.fs l j with
    | false=>rfl
    | true=>exact absurd (QeS.1 h).1 e
   simp[e,this]
theorem sframes_c{s:Sp}(r:s.fs.length<=64){l:List Inc}(E:l.length<=9223372036854775806):J3 s l=some ((cfr s.fs l).map λ(k:Nat)=>(k:Int)):=by
 obtain ⟨m,B,y⟩:=set_c r E;have f:cfr s.fs l=(List.range 64).filter m.testBit:=by
  unfold cfr;have u:=QgQ (p:=isC s.fs l) (a:=s.fs.length) (λi C=>by
   cases h:isC s.fs l i with
   | false=>rfl
   | true=>have:=(QeS.1 h).1;omega) (64-s.fs.length)
  rw[show s.fs.length+(64-s.fs.length)=64 by omega]at u;rw[<- u];congr 1;funext j;exact (y.bit j).symm
 refine Gd.eq ?_;unfold J3;refine Gd.bind (P:=λb=>b=(cfr s.fs l).map λ(k:Nat)=>(k:Int)) ?_ λb D=>.some D;refine .call B ?_;refine Gd.loop (λ(x:List Int×Int)=>∃ (t:List Nat) (w:Nat),x=(t.map λ(k:Nat)=>(k:Int),(w:Int))/\w<18446744073709551616/\t.length<=64/\t++(List.range 64).filter w.testBit=(List.range 64).filter m.testBit) _ (λx=>x.2.toNat) ⟨[],m,rfl,y.lt,Os,rfl⟩ ?_;rintro x ⟨t,w,rfl,hw,htl,ht⟩;dsimp only;refine .ite (λg=>.out ?_) λg=>?_
 ·have:w=0:=by omega
  subst this;rw[f,<- ht];have:(List.range 64).filter (Nat.testBit 0)=[]:=by rw[Uu];intro i _;simp
  rw[this,W6]
 ·have g:¬ (w:Int)=0:=g;obtain ⟨j,q,e⟩:=low_bit w Oo;subst e;have z:=low_lt hw;refine .call (tz_c hw) ?_;have c:=filter_low (p:=(2^(j+1)*q+2^j).testBit) (j:=j) (by rw[bit_at];simp) (λi C=>by rw[bit_at,if_pos Oo];simp;omega) 64;rw[if_pos z]at c;have v:=Yv j;have A:bits .and .u64 ((2^(j+1)*q+2^j:Nat):Int) (wu (((2^(j+1)*q+2^j:Nat):Int)-1))=(((2^(j+1)*q+2^j) &&& (2^(j+1)*q+2^j-1):Nat):Int):=by rw[show ((2^(j+1)*q+2^j:Nat):Int)-1=((2^(j+1)*q+2^j-1:Nat):Int) by omega,wu_nat Oo,(Qgg hw Oo).1]
  have o:(List.range 64).filter ((2^(j+1)*q+2^j) &&& (2^(j+1)*q+2^j-1)).testBit=(List.range 64).filter (λi=>(2^(j+1)*q+2^j).testBit i && !decide (i=j)):=by congr 1;funext i;exact and_pred j q i
  have d:(t++(List.range 64).filter (2^(j+1)*q+2^j).testBit).length<=64:=by rw[ht];have:=W9 m.testBit (List.range 64);rw[WS]at this;exact this
  rw[c,We,W3]at d;rw[A];refine .pos (by rw[Wb,WJ];omega) (.go ⟨t++[j],(2^(j+1)*q+2^j) &&& (2^(j+1)*q+2^j-1),by rw[WP];rfl,?_,by rw[We,WJ];omega,?_⟩ ?_)
  ·exact YB Nat.and_le_left hw
  ·rw[o,<- ht,c,WI];rfl
  ·rw[Wd,Wd];have:=Nat.and_le_right (n:=2^(j+1)*q+2^j) (m:=2^(j+1)*q+2^j-1);omega
theorem asc_all{l:List Int}(h:Asc l)(c:∀ k:0<l.length,0<=l[0]):∀ y∈l,0<=y:=λy b=>by
 obtain ⟨i,a,rfl⟩:=WL.1 b;have:=c Oo;rcases V5 i with rfl | hp
 ·exact this
 ·have:=h.lt' 0 i Oo a hp;omega
def bigQ(q:Int):Bool:=decide (16384<=q)
theorem asc_lenK{l:List Int}(h:Asc l)(f:∀ y∈l,0<=y):l.length<=16384+(l.filter bigQ).length:=by
 have g:(l.filter λq=>!bigQ q).length<=16384:=asc_le (Asc.pw.2 ((Asc.pw.1 h).filter _)) λy d=>by
  obtain ⟨c,a⟩:=WX.1 d;have:=f y c;unfold bigQ at a;have a:¬ 16384<=y:=by simpa using a
  omega
 have b:=List.length_eq_countP_add_countP (l:=l) bigQ;rw[Yw,Yw]at b;have e:(l.filter λq=>decide ¬ bigQ q=true)=l.filter λq=>!bigQ q:=by congr 1;funext q;cases bigQ q <;> rfl
 rw[e]at b;omega
def SlK(K:Nat)(l:List Qe):Prop:=∀ x∈l,(x.slots.filter bigQ).length<=K
theorem Ql.szK{l:List Qe}(h:Ql l){K:Nat}(d:SlK K l)(e:K<=80000):Qg3 l:=⟨by have:=h.len;omega,λx b=>by
 obtain ⟨_,_,_,c,a⟩:=h.1 x b
 have:=asc_lenK a (asc_all a c)
 have:=d x b
 omega⟩
theorem withI_big{l:List Int}{q:Int}(a:bigQ q=false):(Qcd l q).filter bigQ=l.filter bigQ:=by
 unfold Qcd;split
 ·rfl
 ·rw[ins_eq,if_pos (QeN l q),W4,W4];have:[q].filter bigQ=[]:=by simp[a]
  rw[this,W6,<- W4,Vn]
theorem putK_mem{l:List Qe}{f t q:Int}{x:Qe}(h:x∈putK l f t q):x∈l\/(∃ y∈l,x=⟨f,t,Qcd y.slots q⟩)\/x=⟨f,t,[q]⟩:=by
 unfold putK at h;split at h
 ·rename_i hp;rcases WY h with h | h
  ·exact .inl h
  ·exact .inr (.inl ⟨_,Wc hp.1,h⟩)
 ·rw[ins_eq]at h;split at h
  ·rcases Wk.1 h with h | h
   ·rcases Wk.1 h with h | h
    ·exact .inl (VJ h)
    ·exact .inr (.inr (Wn.1 h))
   ·exact .inl (VV h)
  ·exact .inl h
theorem putK_big{l:List Qe}{K:Nat}(h:SlK K l){f t q:Int}(e:q<16384):SlK K (putK l f t q):=λx d=>by
 have a:bigQ q=false:=by unfold bigQ;simp;omega
 rcases putK_mem d with b | ⟨y,c,rfl⟩ | rfl
 ·exact h x b
 ·dsimp only;rw[withI_big a];exact h y c
 ·have:[q].filter bigQ=[]:=by simp[a]
  dsimp only;rw[this];exact WO _
theorem Qgz{s:Sp}(c:Zn s){l:List Qe}(a:Ql l){K:Nat}(b:SlK K l)(p w:Int):Ql (Qck s l p w)/\SlK K (Qck s l p w):=by
 unfold Qck;split
 ·rename_i h;obtain ⟨r1,r2,r3,r4,r5,r6⟩:=h.rng c;exact ⟨(putK_ok a ⟨r1,r2⟩ ⟨r3,r4⟩ r5).1,putK_big b r6⟩
 ·exact ⟨a,b⟩
theorem QbZ{s:Sp}(a:Zn s){K:Nat}:∀ (ps:List Int) {l:List Qe},Ql l->SlK K l->Ql (ZX s l ps)/\SlK K (ZX s l ps)
 | [],l,hl,hi=>⟨hl,hi⟩
 | p :: ps,l,hl,hi=>by obtain ⟨b,c⟩:=Qgz a hl hi p (wAt s p);exact QbZ a ps b c
theorem note_loopK{s:Sp}(d:Zn s)(h:SpW s){K:Nat}(k:K<=80000){Q:List Qe->Prop}{ps:List Int}(g:∀ p∈ps,0<=p/\p<s.ws.length)(n:ps.length<=9223372036854775806){l:List Qe}(j:Ql l)(b:SlK K l)(m:Q (ZX s l ps)) :
  Gd Q (Qf (λ(s6:List Qe×Int) =>
   if s6.2<(ps.length:Int) then
   ((at_ ps s6.2).bind λv11 =>
   (at_ s.ws v11).bind λv12 =>
   (Q9 s s6.1 v11 v12).bind λv13 =>
   some (LS.go ((v13,w64 (s6.2+1)))))
   else
   some (LS.out (s6.1))) (l,0)):=by
 refine Gd.fold ps (λ(t:List Qe) i=>(t,i)) (λl p=>Qck s l p (wAt s p)) l (λ_ t=>Ql t/\SlK K t) rfl (λ_ _=>rfl) n ⟨j,b⟩ (λi b t a=>?_) (λ_=>m);have c:=g _ (Wc b);obtain ⟨e,f⟩:=Qgz d a.1 a.2 ps[i] (wAt s ps[i]);refine ⟨⟨e,f⟩,?_⟩;refine .atN b (.at c.1 Oo ?_);rw[<- QcC c.1 Oo];exact .call (note19_c d a.1 (a.1.szK a.2 k) (Qfo h _)) (.some rfl)
def RebP(s:Sp)(l:List Qe)(ps:List Int)(mv:List Mov):Prop:=Zn s/\Ql l/\(∀ p∈ps,0<=p/\p<s.ws.length)/\∀ m∈mv,(QbX s m.to).2=0
def RebR(s:Sp)(l:List Qe)(c:List Inc)(ps:List Int)(mv:List Mov):List Qe×Int:=open Classical in if RebP s l ps mv then(renK s l c ps mv,0) else([],1)
theorem renew24_K{s:Sp}(d:Zn s)(h:SpW s){l:List Qe}(r:Ql l){K:Nat}(o:K<=80000)(f:SlK K l)(c:List Inc)(F:c.length<=9223372036854775806){ps:List Int}(D:∀ p∈ps,0<=p/\p<s.ws.length)(G:ps.length<=9223372036854775806){mv:List Mov}(E:∀ m∈mv,I64 m.to)(q:mv.length<=9223372036854775806) :
  Zp s l c ps mv=some (renK s l c ps mv):=by have u:=d.shp.hi;have v:=cfr_len s.fs c;refine Gd.eq ?_;unfold Zp renK;refine .call (QeV s c Oo F) ?_;refine .call (drop18_c (r.szK f o) _ (by rw[Wb];omega)) ?_;have j:=Qdu r ((cfr s.fs c).map λ(k:Nat)=>(k:Int));have n:SlK K (Qat l ((cfr s.fs c).map λ(k:Nat)=>(k:Int))):=λx C=>f x (J0.1 C).1;generalize (cfr s.fs c).map (λ(k:Nat)=>(k:Int))=fr at j n ⊢;refine Gd.bind (P:=λb=>b=ZX s (Qat l fr) ps) (note_loopK d h o D G j n rfl) λb e=>?_;obtain ⟨w,y⟩:=QbZ d ps j n;subst e;refine Gd.bind (P:=λb=>b=ZX s (ZX s (Qat l fr) ps) (movF s mv)) ?_ λb e=>.some e;unfold movF;rw[show ZX s (ZX s (Qat l fr) ps) (mv.flatMap λm=>(QbX s m.to).1)=mv.foldl (λt m=>ZX s t (QbX s m.to).1) (ZX s (Qat l fr) ps) from QeY _ _ _ _];refine Gd.fold mv (λ(t:List Qe) i=>(t,i)) (λt m=>ZX s t (QbX s m.to).1) _ (λ_ t=>Ql t/\SlK K t) rfl (λ_ _=>rfl) q ⟨w,y⟩ (λi f t g=>?_) (λ_=>rfl);obtain ⟨H,z⟩:=flds_rng d h (a:=mv[i].to);obtain ⟨A,B⟩:=QbZ d (QbX s mv[i].to).1 g.1 g.2;refine ⟨⟨A,B⟩,?_⟩;refine Gd.bind (P:=λb=>b=ZX s t (QbX s mv[i].to).1) ?_ λb e=>.some (by rw[e]);refine .atN f ?_;refine .call (Qei d.shp (Q2 d.fm) h (E _ (Wc f))) ?_;exact note_loopK d h o z Oo g.1 g.2 rfl
theorem rsets24_c{s:Sp}(t:SpW s){l:List Qe}(E:l.length<=100000/\∀ x∈l,x.slots.length<=100000){K:Nat}(C:K<=80000)(B:SlK K l)(c:List Inc)(D:c.length<=9223372036854775806){ps:List Int}(v:ps.length<=9223372036854775806){mv:List Mov}(u:∀ m∈mv,I64 m.to)(g:mv.length<=9223372036854775806) :
  JJ s l c ps mv=some (RebR s l c ps mv):=by
 refine Gd.eq ?_;unfold JJ RebR;refine .call (rvalid_c s t) (.ite (λa=>?_) λa=>.some (by rw[if_neg λk=>a (Qa5 k.1)]));have a:=QI.1 a;refine .call (rsets_c l Oo λx w=>by have:=E.2 x w;omega) (.ite (λe=>?_) λe=>.some (by rw[if_neg λk=>e (Qa5 k.2.1)]));have e:=QI.1 e;refine Gd.bndR (P:=λz=>(z = .inl ()/\∀ p∈ps,0<=p/\p<s.ws.length)\/(z = .inr ([],1)/\¬ ∀ p∈ps,0<=p/\p<s.ws.length)) ?_ (λz b=>?_) (λr b=>?_)
 ·refine Gd.find ps (λp=>¬ (0<=p/\p<s.ws.length)) v (λi d f=>?_) (λf=>.inl ⟨rfl,λp y=>by have:=f p y;omega⟩);refine .atN d (.ite (λk=>.some (.inr ⟨Oo,_,rfl,.inr ⟨rfl,λq=>by have:=q _ (Wc d);omega⟩⟩)) λk=>.ite (λA=>.some (.inr ⟨Oo,_,rfl,.inr ⟨rfl,λq=>by have:=q _ (Wc d);omega⟩⟩)) λA=>.some (.inl ⟨Oo,rfl⟩))
 ·rcases b with ⟨_,j⟩ | ⟨h,_⟩
  ·refine Gd.bndR (P:=λz=>(z = .inl ()/\∀ m∈mv,(QbX s m.to).2=0)\/(z = .inr ([],1)/\¬ ∀ m∈mv,(QbX s m.to).2=0)) ?_ (λz b=>?_) (λr b=>?_)
   ·refine Gd.find mv (λm=>¬ (QbX s m.to).2=0) g (λi d f=>?_) (λf=>.inl ⟨rfl,λm o=>by have:=f m o;omega⟩);refine .atN d (.call (Qei a.shp (Q2 a.fm) t (u _ (Wc d))) ?_);exact .ite (λk=>.some (.inl ⟨λq=>q k,rfl⟩)) λk=>.some (.inr ⟨k,_,rfl,.inr ⟨rfl,λq=>k (q _ (Wc d))⟩⟩)
   ·rcases b with ⟨_,n⟩ | ⟨h,_⟩
    ·refine .call (renew24_K a t e C B c D j v u g) (.some ?_);rw[if_pos ⟨a,e,j,n⟩]
    ·cases h
   ·rcases b with ⟨h,_⟩ | ⟨h,n⟩
    ·cases h
    ·injection h with h;rw[h,if_neg λk=>n k.2.2.2]
  ·cases h
 ·rcases b with ⟨h,_⟩ | ⟨h,j⟩
  ·cases h
  ·injection h with h;rw[h,if_neg λk=>j k.2.2.1]
theorem radd_c{s:Sp}(a:Zn s)(m:SpW s){l:List Qe}(j:Ql l)(f:Qg3 l)(p e:Int):Zl p s e l=some (if 0<=p/\p<s.ws.length then(s,e,Qck s l p (wAt s p)) else(s,1,l)):=by have g:=XF a;refine Gd.eq ?_;unfold Zl;refine .ite (λh=>.some (by rw[if_neg Oo])) λt=>?_;refine .ite (λh=>.some (by rw[if_neg Oo])) λu=>?_;rw[if_pos Oo];refine .at Oo Oo ?_;rw[<- QcC Oo Oo];have d:=Qfo m p;unfold U64 at d;refine .call (needs_c a d) ?_;unfold Qck;refine .ite (λb=>?_) λb=>.some (by rw[if_neg λk=>b (Qa5 k)]);have b:=QI.1 b;rw[if_pos b];obtain ⟨o,q,i,r⟩:=b.1;refine .pos (Qfn a.shp.sh) ?_;rw[Qgn a.shp.sh p.toNat Oo,Xg (n:=wAt s p-1) Oo,Qb (n:=wAt s p-1) Oo,Qgn a.shp.sh (wAt s p-1).toNat Oo];refine .call (insert_c f.1 f.2 _ _ _) ?_;have c:Ql l/\(0<=((p.toNat/szS s:Nat):Int)/\((p.toNat/szS s:Nat):Int)<64)/\(0<=(((wAt s p-1).toNat/szS s:Nat):Int)/\(((wAt s p-1).toNat/szS s:Nat):Int)<64)/\0<=p:=⟨j,frOf_in a Oo Oo,frOf_in a Oo Oo,i⟩;rw[if_pos c];exact .pos rfl (.some rfl)
def addL(s:Sp)(l:List Qe)(ps:List Int):List Qe:=ZX s l (ps.filter λp=>decide (0<=p) && decide (p<(s.ws.length:Int)))
theorem noteL_snoc(s:Sp)(l:List Qe)(ps:List Int)(p:Int):ZX s l (ps++[p])=Qck s (ZX s l ps) p (wAt s p):=by unfold ZX;rw[Uo];rfl
theorem filt_in{s:Sp}{ps:List Int}(h:∀ p∈ps,0<=p/\p<s.ws.length):(ps.filter λp=>decide (0<=p) && decide (p<(s.ws.length:Int)))=ps:=VI.2 λp a=>by have:=h p a;simp;omega
open Classical in
theorem add_loop {γ:Type} {s:Sp} (k:Zn s) (o:SpW s) {K:Nat} (u:K<=80000) (J:Sp×List Qe×Int->γ) {Q:γ->Prop} {ps:List Int} (w:ps.length<=9223372036854775806) {l:List Qe} {e:Int} (r:Ql l) (g:SlK K l)
  (v:∀ l',Ql l'->SlK K l'->((∀ p∈ps,0<=p/\p<s.ws.length)->l'=ZX s l ps)->Q (J (s,l',if ∀ p∈ps,0<=p/\p<s.ws.length then e else 1))) :
  Gd Q (Qf (λ(s11:Sp×List Qe×Int×Int) =>
   if s11.2.2.2<(ps.length:Int) then
   ((at_ ps s11.2.2.2).bind λv16 =>
   (Zl v16 s11.1 s11.2.2.1 s11.2.1).bind λv17 =>
   some (LS.go ((v17.1,v17.2.2,v17.2.1,w64 (s11.2.2.2+1)))))
   else
   some (LS.out (J (s11.1,s11.2.1,s11.2.2.1)))) (s,l,e,0)):=by
 refine Gd.for ps.length (λ(t:List Qe×Int) i=>(s,t.1,t.2,i)) (λi t=>t.1=addL s l (ps.take i)/\t.2=(if ∀ p∈ps.take i,0<=p/\p<s.ws.length then e else 1)/\Ql t.1/\SlK K t.1) (l,e) rfl (λ_ _=>rfl) w ⟨rfl,Os,r,g⟩ (λi g t j=>?_) (λt j=>?_)
 ·obtain ⟨a,f,b,c⟩:=j;refine .atN g (.call (radd_c k o b (b.szK c u) _ _) ?_);have d:ps.take (i+1)=ps.take i++[ps[i]]:=Vb g;by_cases h:0<=ps[i]/\ps[i]<s.ws.length
  ·rw[if_pos h];obtain ⟨m,n⟩:=Qgz k b c ps[i] (wAt s ps[i]);refine .some (.inl ⟨(Qck s t.1 ps[i] (wAt s ps[i]),t.2),rfl,?_,?_,m,n⟩)
   ·dsimp only;unfold addL at a ⊢;rw[d,W4,show [ps[i]].filter (λp=>decide (0<=p) && decide (p<(s.ws.length:Int)))=[ps[i]] by simp[h.1,h.2],noteL_snoc,<- a]
   ·dsimp only;rw[f];congr 1;rw[d];refine propext ⟨λq x hx=>?_,λq x hx=>q x (Wg _ hx)⟩;rcases Wk.1 hx with hx | hx
    ·exact q x hx
    ·rw[Wn.1 hx];exact h
  ·rw[if_neg h];refine .some (.inl ⟨(t.1,1),rfl,?_,?_,b,c⟩)
   ·dsimp only;unfold addL at a ⊢;rw[d,W4,show [ps[i]].filter (λp=>decide (0<=p) && decide (p<(s.ws.length:Int)))=[] by simpa using h,W6,a]
   ·dsimp only;rw[if_neg];intro q;exact h (q _ (by rw[d];exact Wj _ (Wn.2 rfl)))
 ·obtain ⟨a,f,b,c⟩:=j;rw[WQ]at a f;have:=v t.1 b c λh=>by rw[a];unfold addL;rw[filt_in h]
  rw[<- f]at this;exact this
theorem movF_snoc(s:Sp)(mv:List Mov)(m:Mov):movF s (mv++[m])=movF s mv++(QbX s m.to).1:=by unfold movF;rw[List.flatMap_append];simp
theorem noteL_app(s:Sp)(l:List Qe)(a b:List Int):ZX s l (a++b)=ZX s (ZX s l a) b:=by unfold ZX;rw[Uo]
open Classical in
theorem Qgs {s:Sp} (v:SpW s) {l:List Qe} (hz:l.length<=100000/\∀ x∈l,x.slots.length<=100000) {K:Nat} (O:K<=80000) (Z:SlK K l) (c:List Inc) (hc:c.length<=9223372036854775806) {ps:List Int} (hn:ps.length<=9223372036854775806) {mv:List Mov} (hm:∀ m∈mv,I64 m.to) (Q:mv.length<=9223372036854775806) :
  Zx s l c ps mv=some (RebR s l c ps mv):=by
 refine Gd.eq ?_;unfold Zx RebR;refine .call (valid_c s v) (.ite (λe=>?_) λe=>.some (by rw[if_neg λk=>e (Qa5 k.1)]));have e:=QI.1 e;refine .call (sets_c l Oo λx J=>by have:=hz.2 x J;omega) (.ite (λf=>?_) λf=>.some (by rw[if_neg λk=>f (Qa5 k.2.1)]));have f:=QI.1 f;have aa:=e.shp.hi;have ab:=cfr_len s.fs c;refine .call (sframes_c Oo hc) ?_;refine .call (drop_c (f.szK Z O) _ (by rw[Wb];omega)) ?_;have R:=Qdu f ((cfr s.fs c).map λ(k:Nat)=>(k:Int));have S:SlK K (Qat l ((cfr s.fs c).map λ(k:Nat)=>(k:Int))):=λx J=>Z x (J0.1 J).1;have T:renK s l c ps mv=ZX s (ZX s (Qat l ((cfr s.fs c).map λ(k:Nat)=>(k:Int))) ps) (movF s mv):=rfl;generalize Qat l ((cfr s.fs c).map λ(k:Nat)=>(k:Int))=l0 at R S T ⊢;refine Gd.bind (P:=λb:Sp×List Qe×Int=>b.1=s/\Ql b.2.1/\SlK K b.2.1/\((∀ p∈ps,0<=p/\p<s.ws.length)->b.2.1=ZX s l0 ps)/\b.2.2=if ∀ p∈ps,0<=p/\p<s.ws.length then 0 else 1) ?_ λb hb=>?_
 ·exact add_loop e v O (λx=>x) hn R S λl' A B M=>⟨rfl,A,B,M,rfl⟩
 ·obtain ⟨d,E,F⟩:=b;obtain ⟨rfl,V,W,X,o⟩:=hb;dsimp only at V W X o ⊢;refine Gd.bndR (P:=λz=>(∃ L:List Qe,z = .inl (L,F)/\((∀ p∈ps,0<=p/\p<d.ws.length)->L=ZX d E (movF d mv))/\∀ m∈mv,(QbX d m.to).2=0)\/(z = .inr ([],1)/\¬ ∀ m∈mv,(QbX d m.to).2=0)) ?_ (λz j=>?_) (λr j=>?_)
  ·refine Gd.for mv.length (λ(t:List Qe) i=>(d,t,F,i)) (λi t=>Ql t/\SlK K t/\t=ZX d E (movF d (mv.take i))/\∀ m∈mv.take i,(QbX d m.to).2=0) E rfl (λ_ _=>rfl) Q ⟨V,W,rfl,λm h=>absurd h (WV)⟩ (λi C t N=>?_) (λt N=>?_)
   ·obtain ⟨G,H,w,y⟩:=N;have D:=hm _ (Wc C);have U:mv.take (i+1)=mv.take i++[mv[i]]:=Vb C;obtain ⟨f1,Y⟩:=flds_rng e v (a:=mv[i].to);refine Gd.bndR (P:=λz=>(z = .inl (d,ZX d t (QbX d mv[i].to).1,F)/\(QbX d mv[i].to).2=0)\/(z = .inr (.out (.inr ([],1)))/\¬ (QbX d mv[i].to).2=0)) ?_ (λz j=>?_) (λr j=>?_)
    ·refine .atN C (.call (slots_c e v D) ?_);refine .ite (λg=>?_) λg=>.some (.inr ⟨rfl,g⟩);refine add_loop e v O (λx=>Sum.inl x) Oo G H λl' A B M=>?_;rw[if_pos Y,M Y];exact .inl ⟨rfl,g⟩
    ·rcases j with ⟨h,g⟩ | ⟨h,_⟩
     ·injection h with h;subst h;obtain ⟨A,B⟩:=QbZ e (QbX d mv[i].to).1 G H;refine .some (.inl ⟨ZX d t (QbX d mv[i].to).1,rfl,A,B,by rw[U,movF_snoc,noteL_app,<- w],λm u=>?_⟩);rw[U]at u;rcases Wk.1 u with h | h
      ·exact y m h
      ·rw[Wn.1 h];exact g
     ·cases h
    ·rcases j with ⟨h,_⟩ | ⟨h,g⟩
     ·cases h
     ·injection h with h;rw[h];exact .inr ⟨_,rfl,.inr ⟨rfl,λq=>g (q _ (Wc C))⟩⟩
   ·obtain ⟨G,H,w,y⟩:=N;rw[WQ]at w y;exact .inl ⟨t,rfl,λ_=>w,y⟩
  ·rcases j with ⟨L,h,h3,I⟩ | ⟨h,_⟩
   ·injection h with h;subst h;dsimp only;by_cases n:∀ p∈ps,0<=p/\p<d.ws.length
    ·rw[if_pos n]at o;subst o;refine .pos rfl (.some ?_);rw[if_pos ⟨e,f,n,I⟩,h3 n,X n,T]
    ·rw[if_neg n]at o;subst o;refine .neg Od (.some ?_);rw[if_neg λk=>n k.2.2.1]
   ·cases h
  ·rcases j with ⟨L,h,_⟩ | ⟨h,I⟩
   ·cases h
   ·injection h with h;rw[h,if_neg λk=>I k.2.2.2]
def cpS(h:Hp)(l:List Inc)(a:EvS)(out:List Int):Sp:=⟨h.space.sh,wrtL a.s.ws (QaE h.space h.sets l) (out.drop (JB h.space h.roots l).length),a.s.fs⟩
structure CpX(h:Hp)(BL:List (List Itm))(l:List Inc)(C K:List Itm)(T0 T:Itm)(M:List (Nat×Nat×Nat))(st:EvS)(out:List Int):Prop where
 H:QQ h BL
 S:StepB h BL l C K T0
 ctx:EvB h.space C K T0
 new:∃ b,T0=newI h.seq b
 R:EvR h.space C K T0 (stpW h l) st out T M
 ll:l.length<=64
section
variable{h:Hp}{BL:List (List Itm)}{l:List Inc}{C K:List Itm}{T0 T:Itm}{M:List (Nat×Nat×Nat)}{st:EvS}{out:List Int}
theorem CpX.kt(X:CpX h BL l C K T0 T M st out){x:Itm}(a:x∈BL.flatten)(d:x∉C):x∈K:=by
 rcases Qgy X.S a d with k | e
 ·exact k
 ·obtain ⟨b,c⟩:=X.new;have:=X.H.sq x a;rw[e,c]at this;dsimp only at this;omega
theorem CpX.lens(X:CpX h BL l C K T0 T M st out):out.length=(JB h.space h.roots l).length+(QaE h.space h.sets l).length:=by rw[X.R.len];unfold stpW;rw[We,Wb,Wb]
theorem CpX.stay(X:CpX h BL l C K T0 T M st out){x:Itm}(c:x∈K){k:Nat}(b:k∈x.fr):∃ hl:k<st.s.fs.length,¬ st.s.fs[k].ow = -1:=by have a:=X.R.inv.oth x (Wj _ c);exact ⟨a.ch.lt k b,a.own k b (a.ch.lt k b)⟩
theorem CpX.z(X:CpX h BL l C K T0 T M st out):8<=szS h.space:=X.ctx.z0
theorem CpX.z2(X:CpX h BL l C K T0 T M st out):szS (cpS h l st out)=szS h.space:=rfl
theorem CpX.len2(X:CpX h BL l C K T0 T M st out):(cpS h l st out).ws.length=h.space.ws.length/\(cpS h l st out).fs.length=h.space.fs.length:=⟨(QaC _ _ _).trans X.R.inv.wl,X.R.inv.fl⟩
theorem CpX.ok(X:CpX h BL l C K T0 T M st out):Zn (cpS h l st out)/\SpW (cpS h l st out):=by
 have f:st.s.sh=h.space.sh:=X.R.inv.sh;have b:Zn ⟨st.s.sh,(cpS h l st out).ws,st.s.fs⟩:=by
  refine sp_ws X.R.inv.ok (QaC _ _ _) λk E t a u w e=>?_;have g:∀ q∈QaE h.space h.sets l,q.toNat≠a:=λq y z=>by obtain ⟨i,_,x,c,m,p,r,d,n,j,B,D,o⟩:=XG X.H X.S y;have:=(ZI X.H.sp.ok (X.H.sp.each x c) n Oo i o).1;unfold Jn at this;rw[z,show szS h.space=szS st.s from X.R.inv.z.symm,e]at this;obtain ⟨_,s⟩:=X.stay (X.kt c m) this;exact s t
  have:=QcR (QaE h.space h.sets l) (out.drop (JB h.space h.roots l).length) st.s.ws a g;exact VC ((Wa w).symm.trans (this.trans (Wa u)))
 refine ⟨by rw[f]at b;exact b,⟨λx c=>?_,X.R.inv.w.2⟩⟩;exact QfT _ _ _ X.R.inv.w.1 (λv A=>X.R.u v (VV A)) x c
theorem CpX.cf(X:CpX h BL l C K T0 T M st out){k:Nat}:((k:Nat):Int)∈(cfr (cpS h l st out).fs l).map (λ(k:Nat)=>(k:Int))<->∃ c∈C,k∈c.fr:=by rw[mem_nat,mem_cfr];have:=Qed (fs:=st.s.fs) (C:=C) (k:=k) λx a=>X.R.inv.oth x (Wg _ a);rw[X.S.ci]at this;exact this
theorem CpX.noC(X:CpX h BL l C K T0 T M st out){x:Itm}(d:x∈K\/x=T){k:Nat}(f:k∈x.fr):¬ ∃ c∈C,k∈c.fr:=by
 rintro ⟨c,e,b⟩;have a:=X.R.inv.oth c (Wg _ e);rcases d with d | rfl
 ·exact a.disj (X.R.inv.oth x (Wj _ d)) (X.ctx.sqK c e x d) k b f
 ·exact a.disj X.R.inv.inc.toIncC (by rw[X.R.inv.sq.1];exact X.ctx.sqT c (Wg _ e)) k b f
theorem CpX.new_w(X:CpX h BL l C K T0 T M st out){o:Nat×Nat×Nat×Nat}(t:o∈nob T0.i.words.toNat M){k:Nat}(B:k<=o.2.2.1+o.2.2.2) :
  (cpS h l st out).ws[adr (szS h.space) T.fr (o.2.1+k)]?=st.s.ws[adr (szS h.space) T.fr (o.2.1+k)]?/\o.2.1+k<T.fr.length*szS h.space:=by
 have u:=X.z;have a:=Qbf X.R.inv;have i:=Jp M _ o t;have c:∀ q∈QaE h.space h.sets l,q.toNat≠adr (szS h.space) T.fr (o.2.1+k):=λq s e=>by obtain ⟨v,_,y,g,j,m,w,x,d,n,z,A,r⟩:=XG X.H X.S s;rw[r]at e;have b:=Itm.posOk X.H.sp.ok (X.H.sp.each y g) d;have f:=X.kt g j;exact Qem Oo ((X.R.inv.oth y (Wj _ f)).disj X.R.inv.inc.toIncC (by rw[X.R.inv.sq.1];exact X.ctx.sqT y (Wj _ f))) (p:=m+n) (q:=o.2.1+k) Oo Oo e
 exact ⟨QcR _ _ _ _ c,Oo⟩
theorem CpX.fields(X:CpX h BL l C K T0 T M st out){o:Nat×Nat×Nat×Nat}(g:o∈nob T0.i.words.toNat M) :
  QbX (cpS h l st out) ((adr (szS h.space) T.fr o.2.1:Nat):Int)=((List.range o.2.2.1).map λj=>((adr (szS h.space) T.fr (o.2.1+(j+1)):Nat):Int),0):=by
 obtain ⟨x,n,p,q,e⟩:=X.R.inv.src _ (QdE M _ o g);have b:=Itm.posOk X.ctx.ok (X.ctx.cs x n) q;have i:=(X.new_w g (k:=o.2.2.1+o.2.2.2) Oo).2;have a:Chn (cpS h l st out).fs T.fr:=X.R.inv.inc.ch;have c:Own (cpS h l st out).fs T.fr:=X.R.inv.inc.own;have m:(cpS h l st out).ws[adr (szS (cpS h l st out)) T.fr o.2.1]?=some (hdW o.2.2.1 o.2.2.2):=by have:=(X.new_w g (k:=0) Oo).1;rw[Vz]at this;exact this.trans (X.R.inv.hd o g)
 have f:=(QeR X.ok.1 a c (p:=o.2.1) (r:=o.2.2.1) (d:=o.2.2.2) (by rw[X.z2];omega) b.2.1 b.2.2.1 m).1;rw[X.z2]at f;unfold QbX;rw[f,if_pos rfl];refine congrArg (λl=>(l,(0:Int))) ?_;unfold fldL;rw[Wd];refine W7 λj s=>?_;rw[WE]at s;have:=go_k (k:=j+1) X.ok.1.shp a c (p:=o.2.1) (by rw[X.z2];omega);rw[X.z2]at this;rw[show (1+(j:Int))=((j+1:Nat):Int) by omega,this]
theorem CpX.mv(X:CpX h BL l C K T0 T M st out){m:Mov}(a:m∈st.mv):∃ o∈nob T0.i.words.toNat M,m=⟨(o.1:Int),((adr (szS h.space) T.fr o.2.1:Nat):Int)⟩:=by rw[X.R.inv.mv]at a;obtain ⟨o,b,e⟩:=Wm.1 a;exact ⟨o,b,e.symm⟩
theorem CpX.movF(X:CpX h BL l C K T0 T M st out){q:Int}(a:q∈Go.Proofs.YthadnbdbfpggdaaGreatDoor.movF (cpS h l st out) st.mv):∃ o∈nob T0.i.words.toNat M,∃ k,1<=k/\k<=o.2.2.1/\q=((adr (szS h.space) T.fr (o.2.1+k):Nat):Int):=by unfold Go.Proofs.YthadnbdbfpggdaaGreatDoor.movF at a;rw[UP]at a;obtain ⟨m,c,a⟩:=a;obtain ⟨o,b,rfl⟩:=X.mv c;rw[X.fields b]at a;obtain ⟨j,d,rfl⟩:=Wm.1 a;rw[WE]at d;exact ⟨o,b,j+1,Oo,Oo,rfl⟩
theorem CpX.slot_rng(X:CpX h BL l C K T0 T M st out){q:Int}(f:q∈QaE h.space h.sets l):0<=q/\q<(cpS h l st out).ws.length:=by obtain ⟨a,_,x,b,g,p,r,d,c,j,i,k,e⟩:=XG X.H X.S f;have:=(ZI X.H.sp.ok (X.H.sp.each x b) c Oo a e).2;exact ⟨a,by rw[X.len2.1];exact this⟩
theorem CpX.slot_w(X:CpX h BL l C K T0 T M st out){q:Int}(a:q∈QaE h.space h.sets l):ImgP h.space C st.mv (wAt h.space q) (wAt (cpS h l st out) q):=by
 obtain ⟨j,d⟩:=W8.1 a;obtain ⟨n,o⟩:=Wo.1 d;have b:=X.lens;have e:∀ q∈QaE h.space h.sets l,0<=q:=λq a=>(X.slot_rng a).1;have f:(out.drop (JB h.space h.roots l).length)[j]?=some (out[(JB h.space h.roots l).length+j]' Oo):=by rw[WW,Wa Oo]
 have c:=wrtL_at (QaE h.space h.sets l) (out.drop (JB h.space h.roots l).length) st.s.ws (ent_idx (entL_asc _ _ _) e) (by rw[Wv];omega) (λq a=>by
  have g:=X.slot_rng a
  rw[X.len2.1]at g
  rw[X.R.inv.wl];omega) j _ _ d f
 have i:=e q a;have k:wAt (cpS h l st out) q=out[(JB h.space h.roots l).length+j]' Oo:=by have m:(cpS h l st out).ws[q.toNat]?=_:=c;have:=Xh m;rwa [show ((q.toNat:Nat):Int)=q by omega]at this
 rw[k];refine X.R.img ((JB h.space h.roots l).length+j) _ _ ?_ (Wa Oo);unfold stpW;rw[WC (by rw[Wb];omega),Wb,V9,Wh,d];rfl
theorem CpX.fld_w(X:CpX h BL l C K T0 T M st out){o:Nat×Nat×Nat×Nat}(d:o∈nob T0.i.words.toNat M){k:Nat}(i:1<=k)(j:k<=o.2.2.1):∃ w,ImgP h.space C st.mv w (wAt (cpS h l st out) ((adr (szS h.space) T.fr (o.2.1+k):Nat):Int)):=by obtain ⟨n,c⟩:=W8.1 d;have a:=(Wo.1 c).1;rw[Qcl]at a;have b:=X.R.inv.ref n o c k i j;rw[if_pos (.inl a)]at b;obtain ⟨w,v,_,f,g⟩:=b;have e:=(X.new_w d (k:=k) Oo).1.trans f;rw[Xh e];exact ⟨w,g⟩
theorem CpX.tfr(X:CpX h BL l C K T0 T M st out){p:Nat}(a:p<T.fr.length*szS h.space):Jn (cpS h l st out) ((adr (szS h.space) T.fr p:Nat):Int)∈T.fr:=by have b:=X.z;unfold Jn;rw[Wd];exact adr_fr Oo a
theorem CpX.img(X:CpX h BL l C K T0 T M st out){w v:Int}(j:ImgP h.space C st.mv w v)(a:¬ v=0/\v<=(cpS h l st out).ws.length):¬ ∃ c∈C,Jn (cpS h l st out) (v-1)∈c.fr:=by
 rcases j with ⟨f,rfl⟩ | ⟨_,m,g,_,rfl⟩
 ·rintro ⟨c,b,d⟩;refine f ⟨⟨a.1,by rw[<- X.len2.1];exact a.2⟩,?_⟩;exact (Qed λx i=>(X.ctx.cs x i).inc.toIncC).2 ⟨c,b,d⟩
 ·obtain ⟨o,e,rfl⟩:=X.mv g;dsimp only;rw[Int.add_sub_cancel];have:=(X.new_w e (k:=0) Oo).2;exact X.noC (.inr rfl) (X.tfr (p:=o.2.1) Oo)
theorem CpX.known(X:CpX h BL l C K T0 T M st out){q:Int}(hq:q∈QaE h.space h.sets l\/q∈Go.Proofs.YthadnbdbfpggdaaGreatDoor.movF (cpS h l st out) st.mv)(g:Qby (cpS h l st out) q (wAt (cpS h l st out) q)) :
  (¬ ∃ c∈C,Jn (cpS h l st out) q∈c.fr)/\¬ ∃ c∈C,Jn (cpS h l st out) (wAt (cpS h l st out) q-1)∈c.fr:=by
 have b:¬ wAt (cpS h l st out) q=0/\wAt (cpS h l st out) q<=(cpS h l st out).ws.length:=⟨g.1.1,g.1.2.1⟩;rcases hq with hq | hq
 ·refine ⟨?_,X.img (X.slot_w hq) b⟩;obtain ⟨i,_,x,e,a,p,r,d,m,j,v,y,n⟩:=XG X.H X.S hq;have:=(ZI X.H.sp.ok (X.H.sp.each x e) m Oo i n).1;exact X.noC (.inl (X.kt e a)) this
 ·obtain ⟨o,f,k,s,t,rfl⟩:=X.movF hq;obtain ⟨w,u⟩:=X.fld_w f s t;exact ⟨X.noC (.inr rfl) (X.tfr (X.new_w f (k:=k) Oo).2),X.img u b⟩
end
def CopR(r:Hp×List Inc×List Int×Sp×List Mov×Qc):Prop:=XJ r.2.2.2.2.2/\∃ BL,QQ r.1 BL /\ ((r.2.1=[]/\r.2.2.1=[]/\r.2.2.2.1=r.1.space/\r.2.2.2.2.1=[]) \/ ∃ C K T0 T M st out,CpX r.1 BL r.2.1 C K T0 T M st out/\r.2.2.1=QaE r.1.space r.1.sets r.2.1/\r.2.2.2.1=cpS r.1 r.2.1 st out/\r.2.2.2.2.1=st.mv)
theorem copied_c{d:Qc}(hd:XJ d):Gd CopR (Jx d):=by
 unfold Jx;refine .bind (heap_g hd) λr1 aa=>?_;obtain ⟨c,Q⟩:=aa;obtain ⟨f,H⟩:=Q.inv;have D:=Q.dck;have V:=Q.seq;generalize r1.1=h at H V ⊢;generalize r1.2.2=d1 at D ⊢;clear Q;obtain ⟨z1,z2,z3,z4,z5⟩:=H.small;have u:=H.sp.ok;have ad:=H.count;refine .call (all15_c H.bsz) ?_;rw[H.flat];have n:(f.flatten.map Itm.i).length=f.flatten.length:=Wb ..;have E:w64 (((f.flatten.map Itm.i).length:Int)+1)=((f.flatten.length+1:Nat):Int):=by rw[n,Qb Oo];rfl
 rw[E];refine .bind (Ze D Oo) λr2 h2=>?_;obtain ⟨v,d2⟩:=r2;obtain ⟨⟨v0,v1⟩,L⟩:=h2;dsimp only at v0 v1 L ⊢;obtain ⟨m,rfl⟩:∃ m:Nat,v=(m:Int):=⟨v.toNat,Oo⟩;refine .pos ⟨Oo,Oo,by rw[n];omega⟩ ?_;have el:((f.flatten.map Itm.i).take (Int.toNat (m:Int))).drop (Int.toNat 0)=(f.flatten.take m).map Itm.i:=by rw[Wd,UK];rfl
 rw[el];generalize hC:f.flatten.take m=C;generalize hK:f.flatten.drop m=K;have F:∀ x∈C,x∈f.flatten:=λx z=>by rw[<- hC]at z;exact VJ z
 have w:C++K=f.flatten:=by rw[<- hC,<- hK];exact Vn m _
 have y:=H.sp.seqs;rw[<- w,Ve]at y;have G:(C.map Itm.i).length<=64:=by rw[Wb,<- hC,Wf];omega
 generalize hl:C.map Itm.i=l at G;have ab:=ent_len H (l:=l);have ac:=hdl_len H (l:=l);refine .call (QgR u H.sp.w H.sok H.sin l Oo) ?_;dsimp only;refine Gd.bind (P:=λb=>b=(JB h.space h.roots l).map (Qz h.roots)) ?_ λb B=>?_
 ·refine .call (QgK u H.rts l Oo) ?_;refine Gd.for ((JB h.space h.roots l).map λi=>((i+1:Nat):Int)).length (λ(t:List Int) i=>(t,i)) (λi t=>t=((JB h.space h.roots l).take i).map (Qz h.roots)) [] rfl (λ_ _=>rfl) (by rw[Wb];omega) Os (λi g t a=>?_) (λt a=>?_)
  ·rw[Wb]at g;have W:=(QeU (Wc g)).1;have I:(JB h.space h.roots l)[i]<h.roots.refs.length:=by have:=(Wo.1 (Xj.1 W)).1;omega
   have k:t.length<=1000000:=by rw[a,Wb,Wf];omega
   refine .atN (by rw[Wb];exact g) ?_;rw[Vt];have E:w64 ((((JB h.space h.roots l)[i]+1:Nat):Int)-1)=(((JB h.space h.roots l)[i]:Nat):Int):=by rw[Qb Oo];omega
   rw[E];refine .atN I (.pos (XP (l:=t) k Oo) (.some (.inl ⟨_,rfl,?_⟩)));rw[QC g,WP,a];unfold Qz;rw[Uz,Wa I];rfl
  ·rw[Wb,WQ]at a;rw[a]
 subst B;have hS:∀ b:Int,0<=b->b<h.config.rules.length->StepB h f l C K (newI h.seq b):=λb U b1=>by
  refine ⟨hl,F,λx=>?_,.inr ⟨b,rfl⟩,⟨U,b1⟩⟩;constructor
  ·intro z;have J:x∈f.flatten:=by rw[<- w];exact Wj _ z
   refine ⟨J,λhc=>y.2.2 x hc x z rfl,λe=>?_⟩;have:=H.sq x J;rw[e]at this;dsimp only at this;omega
  ·rintro ⟨h1,h2,_⟩;rw[<- w]at h1;exact (Wk.1 h1).resolve_left h2
 have o:∀ q∈QaE h.space h.sets l,0<=q/\q<h.space.ws.length:=λq hq=>by
  have B:0<h.config.rules.length:=by have:=H.cfg.len;omega
  obtain ⟨q0,_,x,z,hn,p,r,d,hp,j,j1,j2,e2⟩:=XG H (hS 0 Oo Oo) hq;exact ⟨q0,(ZI u (H.sp.each x z) hp Oo q0 e2).2⟩
 refine Gd.bind (P:=λb=>b=stpW h l) ?_ λb B=>?_
 ·refine Gd.for (QaE h.space h.sets l).length (λ(t:List Int) i=>(t,i)) (λi t=>t=(JB h.space h.roots l).map (Qz h.roots)++((QaE h.space h.sets l).take i).map (wAt h.space)) _ rfl (λ_ _=>rfl) Oo Os (λi g t a=>?_) (λt a=>?_)
  ·have O:=o _ (Wc g);have k:t.length<=1000000:=by rw[a,We,Wb,Wb,Wf];omega
   refine .atN (l:=QaE h.space h.sets l) g (.at (i:=(QaE h.space h.sets l)[i]) O.1 Oo (.pos (XP (l:=t) k Oo) (.some (.inl ⟨_,rfl,?_⟩))));rw[QC g,WP,<- WI,<- a,Uz,QcC O.1 Oo]
  ·rw[WQ]at a;exact a
 subst B;refine .call (copy_c Oo Oo) ?_;have ae:h.belts.length=h.config.rules.length:=by rw[H.bl,Wb,H.bn]
 have af:=H.cfg.len;refine .bind (Ze L Oo) λr3 h3=>?_;obtain ⟨b,d3⟩:=r3;obtain ⟨⟨U,b1⟩,A⟩:=h3;dsimp only at U b1 A ⊢;have S:=hS b U Oo;have Y:(l.map Inc.seq).Nodup:=by rw[<- hl,Va,Vd,Vs];exact y.1
 have hB:=step_ctxB H S Y Oo Oo;obtain ⟨w1,w2⟩:=stpW_ok H S;have s:=run_x hB w1 w2;rw[hl]at s;refine .bind s λr hr=>?_;obtain ⟨k1,k2,k3⟩:=hr;refine .pos k1 (.pos k2 (.ite (λhe=>?_) λhe=>.some ⟨A,f,H,.inl ⟨rfl,rfl,rfl,rfl⟩⟩));obtain ⟨N,T,M,e,R⟩:=k3 he;generalize r.2.2.1=out at e R;subst e;have X:CpX h f l C K (newI h.seq b) T M N out:=⟨H,S,hB,⟨b,rfl⟩,R,G⟩;have Z:=X.lens;refine Gd.bind (P:=λb=>b=(cpS h l N out).ws) ?_ λb B=>?_
 ·refine Gd.for (QaE h.space h.sets l).length (λ(t:List Int) i=>(t,i)) (λi t=>t=wrtL N.s.ws ((QaE h.space h.sets l).take i) ((out.drop (JB h.space h.roots l).length).take i)) N.s.ws rfl (λ_ _=>rfl) Oo (by simp[wrtL]) (λi g t a=>?_) (λt a=>?_)
  ·have O:=o _ (Wc g);have k:t.length=h.space.ws.length:=by rw[a,QaC];exact R.inv.wl
   refine .atN g ?_;have E:w64 ((((JB h.space h.roots l).map (Qz h.roots)).length:Int)+(i:Int))=(((JB h.space h.roots l).length+i:Nat):Int):=by rw[Wb,Qb Oo];push_cast;rfl
   dsimp only;rw[E];refine .atN (l:=out) Oo (.at O.1 Oo (.some (.inl ⟨_,rfl,?_⟩)));rw[QC g,QC (l:=out.drop (JB h.space h.roots l).length) (by rw[Wv];omega),Qd6 _ _ _ _ _ (by rw[Wf,Wf,Wv];omega),<- a,UG]
  ·rw[WQ,WD (by rw[Wv];omega)]at a;exact a
 subst B;exact .some ⟨A,f,H,.inr ⟨C,K,_,T,M,N,out,X,rfl,rfl,rfl⟩⟩
def awR:Sp:=⟨3,List.replicate 24 0,[⟨5,5,-1⟩,⟨-1,-1,-1⟩,⟨-1,-1,-1⟩]⟩
theorem awR_ok:Zn awR:=by
 have d:∀ i (h:i<awR.fs.length),awR.fs[i].nx = -1:=λi h=>by
  have h:i<3:=h;match i,h with
  | 0,_=>rfl
  | 1,_=>rfl
  | 2,_=>rfl
 refine ⟨⟨by unfold QcQ;exact ⟨Od,Od⟩,Od,Od,rfl⟩,λi h=>?_,λi j b g _ _ _=>d i b,λi b=>?_⟩
 ·have f:i<3:=h;match i,f with
  | 0,_=>exact .inr (show QcL awR 0 ⟨5,5,-1⟩ from ⟨⟨Od,Od,0,Od,Od,Od⟩,Od,Od,Od,λj g e=>by have e:(-1:Int)=j:=e;omega⟩)
  | 1,_=>exact .inl ⟨rfl,rfl,rfl,λa c _ _=>Um (show awR.ws[a]∈List.replicate 24 (0:Int) from Wc c)⟩
  | 2,_=>exact .inl ⟨rfl,rfl,rfl,λa c _ _=>Um (show awR.ws[a]∈List.replicate 24 (0:Int) from Wc c)⟩
 ·rw[Qcp b,d i b];exact XN _ rfl
theorem awR_w:SpW awR:=by
 refine ⟨λx b=>?_,λf a=>?_⟩
 ·have:=Um (show x∈List.replicate 24 (0:Int) from b);subst this;unfold U64;omega
 ·have a:f∈[(⟨5,5,-1⟩:Fe),⟨-1,-1,-1⟩,⟨-1,-1,-1⟩]:=a;simp only[Wu,WV,or_false]at a;unfold I64;rcases a with rfl | rfl | rfl <;> decide
def awL:List Qe:=[⟨0,1,[3]⟩,⟨1,2,[9]⟩]
theorem awL_ok:Ql awL:=by
 refine ⟨λx c=>?_,λi h=>?_⟩
 ·have c:x∈[(⟨0,1,[3]⟩:Qe),⟨1,2,[9]⟩]:=c;simp only[Wu,WV,or_false]at c;have b:∀ a:Int,Asc [a]:=λa=>Asc.pw.2 (UQ _ _);rcases c with rfl | rfl
  ·exact ⟨Od,Od,Od,λ_=>(show (0:Int)<=3 by decide),b _⟩
  ·exact ⟨Od,Od,Od,λ_=>(show (0:Int)<=9 by decide),b _⟩
 ·have h:i+1<2:=h;obtain rfl:i=0:=by omega
  exact .inl (show (0:Int)<1 by decide)
theorem slk_in{l:List Qe}(h:ZK l):SlK 0 l:=λx a=>by
 have:x.slots.filter bigQ=[]:=Uu.2 λq b=>by have:=h x a q b;unfold bigQ;simp;omega
 rw[this];exact Wl _
theorem reb_ok{s:Sp}(e:Zn s)(B:SpW s){l:List Qe}(b:Ql l)(g:ZK l){c:List Inc}(C:c.length<=9223372036854775806){ps:List Int}(A:∀ p∈ps,0<=p/\p<s.ws.length)(D:ps.length<=9223372036854775806){mv:List Mov}(i:∀ m∈mv,I64 m.to/\(QbX s m.to).2=0)(d:mv.length<=9223372036854775806) :
  Zx s l c ps mv=some (renK s l c ps mv,0)/\Ql (renK s l c ps mv)/\ZK (renK s l c ps mv)/\∀ f t q,InS (renK s l c ps mv) f t q <->
   (InS l f t q/\¬ f∈(cfr s.fs c).map (λ(k:Nat)=>(k:Int))/\¬ t∈(cfr s.fs c).map (λ(k:Nat)=>(k:Int)))\/((q∈ps\/q∈movF s mv)/\Qby s q (wAt s q)/\f=Jn s q/\t=Jn s (wAt s q-1)):=by
 have a:=b.sz g;refine ⟨?_,?_⟩
 ·rw[Qgs B a (K:=0) Oo (slk_in g) c C D (λm h=>(i m h).1) d];unfold RebR;rw[if_pos ⟨e,b,A,λm h=>(i m h).2⟩]
 ·have j:=Qdu b ((cfr s.fs c).map λ(k:Nat)=>(k:Int));have n:ZK (Qat l ((cfr s.fs c).map λ(k:Nat)=>(k:Int))):=λx z=>g x (J0.1 z).1;obtain ⟨o,r,u⟩:=Qcj e ps j n;obtain ⟨v,w,y⟩:=Qcj e (movF s mv) o r;refine ⟨v,w,λf t q=>(y f t q).trans ?_⟩;rw[u,InS_drop];constructor
  ·rintro ((k | ⟨k,k2⟩) | ⟨k,k2⟩)
   ·exact .inl k
   ·exact .inr ⟨.inl k,k2⟩
   ·exact .inr ⟨.inr k,k2⟩
  ·rintro (k | ⟨k | k,k2⟩)
   ·exact .inl (.inl k)
   ·exact .inl (.inr ⟨k,k2⟩)
   ·exact .inr ⟨k,k2⟩
theorem Qb3:Q5=some true:=by
 refine Gd.eq ?_;unfold Q5;refine .call (new_spec (k:=3) (n:=3) (by unfold QcQ;omega) Oo) ?_;have e:(Sp.mk (newS 3 (3:Int).toNat).sh (newS 3 (3:Int).toNat).ws ((newS 3 (3:Int).toNat).fs.set (Int.toNat 0) (Fe.mk 5 5 (-1))))=awR:=rfl;dsimp only;refine .at0 Od ?_;rw[e];have b:ZK awL:=λx a y f=>by
  have a:x∈[(⟨0,1,[3]⟩:Qe),⟨1,2,[9]⟩]:=a;simp only[Wu,WV,or_false]at a;rcases a with rfl | rfl
  ·rw[Wn.1 f];decide
  ·rw[Wn.1 f];decide
 obtain ⟨d,_⟩:=reb_ok awR_ok awR_w awL_ok b (c:=[Inc.mk 5 0 0 0 0]) Od (ps:=[]) (λp h=>absurd h (WV)) Od (mv:=[]) (λp h=>absurd h (WV)) Od;have g:renK awR awL [Inc.mk 5 0 0 0 0] [] []=[⟨1,2,[9]⟩]:=rfl;rw[g]at d;refine .call d (.pos rfl (.pos rfl (.at0 Od (.some ?_))));rfl
structure CpF(h:Hp)(l:List Inc)(ps:List Int)(s:Sp)(mv:List Mov):Prop where
 ok:Zn s
 w:SpW s
 ll:l.length<=64
 pr:∀ p∈ps,0<=p/\p<s.ws.length
 pl:ps.length<=16384
 mt:∀ m∈mv,I64 m.to/\(QbX s m.to).2=0
 ml:mv.length<=16384
 kn:∀ q,q∈ps\/q∈movF s mv->Qby s q (wAt s q)->¬ (Jn s q:Int)∈(cfr s.fs l).map (λ(k:Nat)=>(k:Int))/\¬ (Jn s (wAt s q-1):Int)∈(cfr s.fs l).map (λ(k:Nat)=>(k:Int))
theorem CopR.f{r:Hp×List Inc×List Int×Sp×List Mov×Qc}(h:CopR r):XJ r.2.2.2.2.2/\∃ BL,QQ r.1 BL/\CpF r.1 r.2.1 r.2.2.1 r.2.2.2.1 r.2.2.2.2.1:=by
 obtain ⟨f,BL,H,k⟩:=h;refine ⟨f,BL,H,?_⟩;rcases k with ⟨j,a,b,c⟩ | ⟨C,K,y,T,M,z,n,X,a,b,c⟩
 ·rw[j,a,b,c];refine ⟨H.sp.ok,H.sp.w,Os,λp h=>absurd h (WV),Os,λp h=>absurd h (WV),Os,λq hq=>?_⟩;rcases hq with hq | hq
  ·exact absurd hq (WV)
  ·unfold movF at hq;simp at hq
 ·rw[a,b,c];generalize r.2.1=l at *;generalize r.1=h at *;obtain ⟨w,x⟩:=ev_len X.ctx X.R.inv;refine ⟨X.ok.1,X.ok.2,X.ll,λp s=>X.slot_rng s,ent_len H,λm t=>?_,Oo,λq hq u=>?_⟩
  ·obtain ⟨o,d,rfl⟩:=X.mv t;have e:=Qej X.R.inv (X.new_w d (k:=0) Oo).2;have v:=XF X.R.inv.ok;refine ⟨by unfold I64;dsimp only;rw[Vz]at e;omega,by dsimp only;rw[X.fields d]⟩
  ·obtain ⟨g,i⟩:=X.known hq u;exact ⟨λh=>g (X.cf.1 h),λh=>i (X.cf.1 h)⟩
theorem mk_deck{l:List Int}(h:∀ x∈l,I64 x)(a:l.length<=9223372036854775807):∃ d,Qdy l=some d/\XJ d:=⟨⟨l,0⟩,rfl,h,by show (0:Int)<=0;omega,a⟩
theorem Qcm{v n:Int}(a:I64 v)(b:1<=n/\n<=9223372036854775807):ZA v n=some (v%n)/\0<=v%n/\v%n<n:=by refine ⟨?_,V4 _ Oo,V6 _ Oo⟩;exact mod_c a b
theorem set_all{α:Type}{p:α->Prop}{l:List α}(h:∀ x∈l,p x){k:Nat}{a:α}(c:p a):∀ x∈l.set k a,p x:=λx b=>by
 rcases WY b with h1 | h1
 ·exact h x h1
 ·subst h1;exact c
theorem spoilt_spec{s:Sp}(i:Qdx s)(h:SpW s){a b c:Int}(J:I64 a)(z:I64 b)(k:I64 c):∃ t,Jk s a b c=some t/\SpW t/\t.ws.length<=65536/\t.fs.length<=65536:=by
 have K:=i.small;have A:=i.hi;have B:=i.lo;obtain ⟨L,M,N,O,P⟩:=i.z;have C:0<s.ws.length:=by rw[i.wl];exact Y5 Oo Oo
 have d:∀ f∈s.fs,I64 f.ow/\I64 f.st/\I64 f.nx:=h.2;have e:∀ x:Int,I64 (w64 x):=λx=>by unfold w64 I64;rw[IntKind.wrap_i64];omega
 obtain ⟨D,E,F⟩:=Qcm (v:=b) (n:=(s.fs.length:Int)) z Oo;obtain ⟨G,Q,R⟩:=Qcm (v:=a) (n:=8) J Oo;obtain ⟨v,j,m⟩:=at_ex (l:=s.fs) E F;obtain ⟨q,r,w⟩:=d v m;unfold Jk;rw[copy_ok Oo Oo,WB,D,WB,G,WB];have fin:∀ f:Fe,I64 f.ow/\I64 f.st/\I64 f.nx->SpW (Sp.mk s.sh s.ws (s.fs.set (Int.toNat (b%(s.fs.length:Int))) f))/\s.ws.length<=65536/\(s.fs.set (Int.toNat (b%(s.fs.length:Int))) f).length<=65536:=λf H=>⟨⟨h.1,set_all d H⟩,Oo,by rw[Ww];omega⟩;split
 ·obtain ⟨g,_,_⟩:=Qcm (v:=c) (n:=6) k Oo;rw[g,WB,j,WB];exact ⟨_,rfl,fin _ ⟨e _,r,w⟩⟩
 split
 ·obtain ⟨g,o,y⟩:=Qcm (v:=c) (n:=4) k Oo;obtain ⟨u,p,_⟩:=at_ex (l:=[(1:Int),(-1),4294967296,17179869184]) o (by simp;omega);rw[j,WB,g,WB,p,WB];exact ⟨_,rfl,fin _ ⟨q,e _,w⟩⟩
 split
 ·obtain ⟨g,_,_⟩:=Qcm (v:=c) (n:=(s.fs.length:Int)+2) k Oo;rw[Qb (n:=(s.fs.length:Int)+2) Oo,g,WB,j,WB];exact ⟨_,rfl,fin _ ⟨q,r,e _⟩⟩
 split
 ·obtain ⟨g,o,y⟩:=Qcm (v:=b) (n:=(s.ws.length:Int)) z Oo;obtain ⟨u,p,_⟩:=at_ex (l:=s.ws) o y;rw[g,WB,p,WB];refine ⟨_,rfl,⟨set_all h.1 ?_,d⟩,by rw[Ww];omega,by show s.fs.length<=_;omega⟩;unfold wu U64;rw[IntKind.wrap_u64];omega
 split
 ·rw[if_pos (by simp only[W3,VN];omega)];refine ⟨_,rfl,⟨λx I=>?_,d⟩,by rw[We];simp;omega,by show s.fs.length<=_;omega⟩;rcases Wk.1 I with h1 | h1
  ·exact h.1 x h1
  ·rw[Wn]at h1;subst h1;unfold U64;omega
 split
 ·obtain ⟨g,_,_⟩:=Qcm (v:=c) (n:=3) k Oo;rw[g,WB];exact ⟨_,rfl,⟨h.1,d⟩,by show s.ws.length<=_;omega,by show s.fs.length<=_;omega⟩
 split
 ·rw[j,WB];exact ⟨_,rfl,fin _ ⟨by show _<=(-1:Int)/\(-1:Int)<=_;omega,by show _<=(-1:Int)/\(-1:Int)<=_;omega,by show _<=(-1:Int)/\(-1:Int)<=_;omega⟩⟩
 ·exact ⟨_,rfl,h,Oo,Oo⟩
theorem makeSets_c{l:List Qe}(h:(∀ x∈l,x.slots.length<=17592186044416)/\l.length<=17592186044416):∃ b,Qbr l=some b/\(b=true->l.length<=40/\∀ x∈l,x.slots.length<=300):=by
 show Gd (λb=>b=true->l.length<=40/\∀ x∈l,x.slots.length<=300) _;unfold Qbr;obtain ⟨j,t⟩:=h;refine Gd.bind (P:=λb:Int=>l.length<=40->∀ i (h:i<l.length),(l[i].slots.length:Int)<=b) ?_ λb q=>?_
 ·refine Gd.loop (λx:Int×Int=>∃ k:Nat,x.2=k/\k<=l.length/\(l.length<=40->0<=x.1/\x.1<=k*17592186044416/\∀ i (h:i<l.length),i<k->(l[i].slots.length:Int)<=x.1)) _ (λx=>l.length-x.2.toNat) ⟨0,rfl,WO _,λ_=>⟨Vo _,Oo,λi _ h=>absurd h (WT _)⟩⟩ ?_;rintro ⟨m,x⟩ ⟨k,f,hk,h3⟩;dsimp only at f h3 ⊢;subst f;refine .ite (λa=>?_) λa=>.out λc i e=>(h3 c).2.2 i e Oo;have a:k<l.length:=by omega
  have s:=j _ (Wc a);refine .atN a ?_;have g:w64 ((k:Int)+1)=((k+1:Nat):Int):=Qb Oo;rw[g];refine .go ⟨k+1,rfl,a,λc=>?_⟩ (by dsimp only;omega);obtain ⟨u,v,o⟩:=h3 c;dsimp only;rw[Qb (n:=m+_) Oo];refine ⟨Oo,by push_cast;omega,λi e r=>?_⟩;by_cases p:i=k
  ·subst p;omega
  ·have:=o i e Oo;omega
 ·refine .ite (λh=>.some λd=>?_) λh=>.some λh=>by cases h
  have d:=of_decide_eq_true d;refine ⟨Oo,λx f=>?_⟩;obtain ⟨i,e,rfl⟩:=WL.1 f;have:=q Oo i e;omega
theorem reb_sz{s:Sp}{l:List Qe}{K:Nat}(j:K<=80000)(m:SlK K l)(c:List Inc)(ps:List Int)(mv:List Mov):Qg3 (RebR s l c ps mv).1:=by
 unfold RebR;by_cases h:RebP s l ps mv
 ·rw[if_pos h];have b:=Qdu h.2.1 ((cfr s.fs c).map λ(k:Nat)=>(k:Int));have d:SlK K (Qat l ((cfr s.fs c).map λ(k:Nat)=>(k:Int))):=λx a=>m x (J0.1 a).1;obtain ⟨e,f⟩:=QbZ h.1 ps b d;obtain ⟨g,i⟩:=QbZ h.1 (movF s mv) e f;exact g.szK i j
 ·rw[if_neg h];exact ⟨WO _,λx a=>absurd a (WV)⟩
theorem Qfq{g:Sp}{r:List Qe}{c:List Inc}{E:List Int}{mv:List Mov}{l:List Int}{n C B:Int}(v:SpW g)(o:(∀ x∈r,x.slots.length<=17592186044416)/\r.length<=17592186044416)
  (A:∀ m∈mv,I64 m.to)(hl:∀ x∈l,I64 x)(hn:l.length<=9223372036854775807)(h1:I64 n)(h2:I64 C)(h3:I64 B):Xn g r c E mv l n C B=some true:=by
 obtain ⟨d,W,X⟩:=mk_deck hl hn;obtain ⟨bs,J,K⟩:=makeSets_c o;refine Gd.eq ?_;unfold Xn;refine .call (small_c g) (.ite (λ_=>?_) λ_=>.call Qb3 (.some rfl));refine .call J (.ite (λhb=>?_) λ_=>.call Qb3 (.some rfl));obtain ⟨r1,r2⟩:=K hb;refine .ite (λ_=>.call Qb3 (.some rfl)) λhc=>.ite (λ_=>.call Qb3 (.some rfl)) λhs=>.ite (λ_=>.call Qb3 (.some rfl)) λD=>?_;refine .call W (.bind (copied_c X) λq hq=>?_);obtain ⟨_,BL,H,F⟩:=hq.f;generalize q.1=h at H F ⊢;generalize q.2.1=cc at F ⊢;generalize q.2.2.1=ps at F ⊢;generalize q.2.2.2.1=s at F ⊢;generalize q.2.2.2.2.1=p at F ⊢;have G:=F.ll;have Q:=F.pl;have R:=F.ml;have I:=H.sok.sz H.sin;refine Gd.bndR (P:=λr=>r = .inl ()) ?_ (λb _=>.call Qb3 (.some rfl)) (λr o=>by cases o);obtain ⟨t,Y,Z,_⟩:=spoilt_spec F.ok.shp F.w h1 h2 h3;refine .call Y ?_;obtain ⟨L1,e1⟩:∃ L:List Sp,L=[s,g,t]:=⟨_,rfl⟩;obtain ⟨L2,e2⟩:∃ L:List (List Qe),L=[h.sets,r]:=⟨_,rfl⟩;obtain ⟨L3,e3⟩:∃ L:List (List Inc),L=[cc,c]:=⟨_,rfl⟩;rw[<- e1,<- e2,<- e3];have S:∀ x∈L1,SpW x:=by
  intro x a;rw[e1]at a;simp only[Wu,WV,or_false]at a;rcases a with rfl | rfl | rfl
  ·exact F.w
  ·exact v
  ·exact Z
 have T:∀ x∈L2,(x.length<=100000/\∀ y∈x,y.slots.length<=100000)/\SlK 300 x:=by
  intro x a;rw[e2]at a;simp only[Wu,WV,or_false]at a;rcases a with rfl | rfl
  ·exact ⟨I,λy f=>Ub (slk_in H.sin y f) (WO _)⟩
  ·exact ⟨⟨Oo,λy f=>by have:=r2 y f;omega⟩,λy f=>Ub (W9 _ _) (r2 y f)⟩
 have U:∀ x∈L3,x.length<=64:=by
  intro x a;rw[e3]at a;simp only[Wu,WV,or_false]at a;rcases a with rfl | rfl
  ·exact G
  ·omega
 have n1:L1.length=3:=by rw[e1];rfl
 have n2:L2.length=2:=by rw[e2];rfl
 have n3:L3.length=2:=by rw[e3];rfl
 refine Gd.for L1.length (λ(_:Unit) i=>i) (λ_ _=>True) () rfl (λ_ _=>rfl) Oo trivial (λi M _ _=>?_) (λ_ _=>rfl);refine Gd.bndR (P:=λr=>r = .inl ()) ?_ (λb _=>.some (.inl ⟨(),rfl,trivial⟩)) (λr o=>by cases o);refine .atN M ?_;have a:=S _ (Wc M);generalize L1[i]=x at a;refine Gd.for L2.length (λ(_:Unit) i=>i) (λ_ _=>True) () rfl (λ_ _=>rfl) Oo trivial (λj N _ _=>?_) (λ_ _=>rfl);refine Gd.bndR (P:=λr=>r = .inl ()) ?_ (λb _=>.some (.inl ⟨(),rfl,trivial⟩)) (λr o=>by cases o);refine .atN N ?_;obtain ⟨f,e⟩:=T _ (Wc N);generalize L2[j]=y at f e;refine Gd.for L3.length (λ(_:Unit) i=>i) (λ_ _=>True) () rfl (λ_ _=>rfl) Oo trivial (λk O _ _=>?_) (λ_ _=>rfl);refine .atN O ?_;have V:=U _ (Wc O);generalize L3[k]=z at V;have u:∀ (ps:List Int) (p:List Mov),XV (RebR x y z ps p).1 (RebR x y z ps p).1=some true:=λps p=>by have:=reb_sz (s:=x) Oo e z ps p;exact same_c _ (by have:=this.1;omega) λw hw=>by have:=this.2 w hw;omega
 refine .call (Qgs a f Oo e z Oo (ps:=ps) Oo (λm D=>(F.mt m D).1) Oo) (.call (rsets24_c a f Oo e z Oo (ps:=ps) Oo (λm D=>(F.mt m D).1) Oo) ?_);refine .pos rfl (.call (u ps p) (.pos rfl ?_));refine .call (Qgs a f Oo e z Oo (ps:=E) Oo A Oo) (.call (rsets24_c a f Oo e z Oo (ps:=E) Oo A Oo) ?_);exact .pos rfl (.call (u E mv) (.pos rfl (.some (.inl ⟨(),rfl,trivial⟩))))
open Go.RowKit Go.ChangeShapes Go.WideShapes Go.Deep
theorem i64_of{a:Int}(h:(Lit.int .i64 a).wf=true):I64 a:=by simp[Lit.wf,IntKind.min,IntKind.max,IntKind.bits,IntKind.signed]at h;unfold I64;omega
theorem Qbd:OpD Tryz.prog 3 iC I64:=OpD.i64 Tryz.underlying3
theorem op_ints:OpD Tryz.prog 28 (lC iC) λxs=>(∀ x∈xs,I64 x)/\xs.length<=9223372036854775807:=OpD.slice (sz:=1) Tryz.underlying28 Ok Od (λ_=>rfl) Qbd
theorem op_words:OpD Tryz.prog 22 (lC uC) λxs=>(∀ x∈xs,U64 x)/\xs.length<=9223372036854775807:=OpD.slice (sz:=1) Tryz.underlying22 Ok Od (λ_=>rfl) (OpD.u64 Tryz.underlying80)
theorem op_frame:OpD Tryz.prog 67 frC λf=>I64 f.ow/\I64 f.st/\I64 f.nx :=
 (OpD.struct Tryz.underlying67 Ok (.cons (z:=1) rfl Ok Qbd (.cons (z:=1) rfl Ok Qbd (.cons (z:=1) rfl Ok Qbd .nil)))).map (λp=>⟨p.1,p.2.1,p.2.2.1⟩) (λ_=>rfl) λ_ h=>⟨h.1,h.2.1,h.2.2.1⟩
theorem op_frames:OpD Tryz.prog 23 (lC frC) λxs=>(∀ f∈xs,I64 f.ow/\I64 f.st/\I64 f.nx)/\xs.length<=9223372036854775807:=OpD.slice (sz:=3) Tryz.underlying23 Ok Od (λ_=>rfl) op_frame
theorem op_space:OpD Tryz.prog 25 spC SpW :=
 (OpD.struct Tryz.underlying25 Ok (.cons (z:=1) rfl Ok Qbd (.cons (z:=1) rfl Ok op_words (.cons (z:=1) rfl Ok op_frames .nil)))).map (λp=>⟨p.1,p.2.1,p.2.2.1⟩) (λ_=>rfl) λ_ h=>⟨h.2.1.1,h.2.2.1.1⟩
open Go.RowKit Go.ChangeShapes Go.WideShapes Go.Deep
def IncW(x:Inc):Prop:=I64 x.seq/\I64 x.belt/\I64 x.first/\I64 x.last/\I64 x.words
theorem op_inc:OpD Tryz.prog 69 Inc.c IncW :=
 (OpD.struct Tryz.underlying69 Ok (.cons (z:=1) rfl Ok Qbd (.cons (z:=1) rfl Ok Qbd (.cons (z:=1) rfl Ok Qbd (.cons (z:=1) rfl Ok Qbd (.cons (z:=1) rfl Ok Qbd .nil)))))).map (λp=>⟨p.1,p.2.1,p.2.2.1,p.2.2.2.1,p.2.2.2.2.1⟩) (λ_=>rfl) λ_ h=>⟨h.1,h.2.1,h.2.2.1,h.2.2.2.1,h.2.2.2.2.1⟩
theorem op_incs:OpD Tryz.prog 27 (lC Inc.c) λxs=>(∀ f∈xs,IncW f)/\xs.length<=9223372036854775807:=OpD.slice (sz:=5) Tryz.underlying27 Ok Od (λ_=>rfl) op_inc
open Go.RowKit Go.ChangeShapes Go.WideShapes Go.Deep
def MovW(x:Mov):Prop:=I64 x.frm/\I64 x.to
theorem op_move:OpD Tryz.prog 58 Mov.c MovW :=
 (OpD.struct Tryz.underlying58 Ok (.cons (z:=1) rfl Ok Qbd (.cons (z:=1) rfl Ok Qbd .nil))).map (λp=>⟨p.1,p.2.1⟩) (λ_=>rfl) λ_ h=>⟨h.1,h.2.1⟩
theorem op_moves:OpD Tryz.prog 29 (lC Mov.c) λxs=>(∀ f∈xs,MovW f)/\xs.length<=9223372036854775807:=OpD.slice (sz:=2) Tryz.underlying29 Ok Od (λ_=>rfl) op_move
open Go.RowKit Go.ChangeShapes Go.WideShapes Go.Deep
section
variable{P:Program}
def OpDW{α:Type}(P:Program)(t:TypeId)(c:α->List DV)(b:α->Prop):Prop := ∀ (H:Type) (enc:TypeId×Value->H) (w:World) (base:Nat) (spare:Nat->Bool) (held:Bool) (fuel:Nat) (cs:List Value) (x:DataW H×List MemPlace), DataW.trod enc P w base spare held fuel t cs=some x->(∀ n∈x.1.weights P t,n<=reachBytes)->∃ a,CRd w cs (c a)/\b a
theorem OpD.toW{α:Type}{c:α->List DV}{g:α->Prop}{t:TypeId}(h:OpD P t c g):OpDW P t c g:=λH f w b a d e i x j _=>h H f w b a d e i x j
theorem Qd8{H:Type}{e:TypeId}:∀ {l:List (DataW H)} {d:DataW H},d∈l->∀ n∈d.weights P e,n∈DataW.weightsAll P e l
 | d' :: r,d,hd,n,hn=>by
  simp only[DataW.weightsAll,Wk];rcases Wu.1 hd with rfl | h
  ·exact Or.inl hn
  ·exact Or.inr (Qd8 h n hn)
theorem OpDW.slice{α:Type}{c:α->List DV}{ok:α->Prop}{t e sz:Nat}(ht:P.underlying t=some (.slice e))(hc:P.cellsOf e=sz)(hp:0<sz)(Q:∀ a,(c a).length=sz)(h:OpDW P e c ok):OpDW P t (lC c) λxs=>(∀ x∈xs,ok x)/\xs.length*P.bytesOf e<=reachBytes:=by
 intro H ad w N J O af cs x o hw;rcases open_slice ht o with ⟨rfl,_⟩ | ⟨a,z,Z,m,n,D,Pl,rfl,hb,hl,hm,aa,ab,ac⟩
 ·exact ⟨[],CRd.one (.nil none 0 (WO _)),(λx o=>by cases o),Os⟩
 ·have ag:z<=m:=by rw[aa];split <;> omega
  subst ab;simp only[DataW.weights,ht,Wu,Wk]at hw;obtain ⟨l,F,G⟩:=Qfl (n:=z) (p:=λi y=>ok y/\∃ f,CRd w f (c y)/\∀ j,j<sz->w.cell? (a.add (i*sz+j))=f[j]?) λi s=>by obtain ⟨f,h1,h2⟩:=ac i Oo;obtain ⟨y,hy,V⟩:=h H ad w N J O n f _ h2 (λq hq=>hw q (.inr (.inl (Qd8 (Wm.2 ⟨i,WE.2 s,rfl⟩) q hq))));rw[hc]at h1;obtain ⟨_,ae,I⟩:=World.cells?_some h1;refine ⟨y,V,f,hy,λj hj=>?_⟩;have:=I j Oo;rw[add_add]at this;rw[this]
  have R:∀ l:List α,l.length=z->l.length*P.bytesOf e<=reachBytes:=λl F=>by have:=hw _ (.inl rfl);simp only[Wb,WS]at this;refine Ub (Wy _ ?_) this;omega
  refine ⟨l,CRd.one ?_,λx o=>?_,R l F⟩
  ·by_cases h0:z=0
   ·have:l=[]:=VA.1 Oo;subst this;subst h0;exact .nil _ _ hm
   ·obtain ⟨b,v,L⟩:=a;obtain ⟨_,W,X,M⟩:=G 0 Oo;have ah:W.length=sz:=by rw[X.1,Q]
    have r:=M 0 hp;rw[Wa Oo]at r;have C:L=none:=by have:=World.cell?_spot r;simpa [Addr.add] using this
    subst C;have B:∀ k,(⟨b,v,none⟩:Addr).add k=⟨b,v+k,none⟩:=λk=>add_lit;rw[B]at r;have S:=World.block_lt_of_cell? w (a:=_) (u:=_) r;have hf:∀ i,∃ g:Nat->Value,i<l.length->∀ j d,((l.map c)[i]?).bind (·[j]?)=some d->w.cell? ⟨b,v+i*sz+j,none⟩=some (g j)/\PRep w (mem0 w).no (g j) d:=λi=>by
     by_cases s:i<l.length
     ·obtain ⟨_,f,hr,Y⟩:=G i s;refine ⟨λj=>f.getD j undef,λ_ j d A=>?_⟩;rw[Wh,Wa s]at A;simp only[Wx,WB]at A;have hj:j<sz:=by
       rw[<- Q l[i]];rcases Ws j (c l[i]).length with h' | h'
       ·exact h'
       ·rw[Wi h']at A;cases A
      have ai:f.length=sz:=by rw[hr.1,Q]
      have K:=Y j hj;rw[Wa Oo,B]at K;have T:f.getD j undef=f[j]' Oo:=by simp[List.getD,show j<f.length by omega]
      dsimp only;rw[T,Vg];exact ⟨K,hr.2 j _ d (Wa Oo) A⟩
     ·exact ⟨λ_=>undef,λh=>absurd h s⟩
    have U:=Classical.axiomOfChoice hf;obtain ⟨g,hg⟩:=U;have E:∀ (i:Nat) (x:List DV),(l.map c)[i]?=some x->i<l.length:=λi x o=>by
     rcases Ws i l.length with h' | h'
     ·exact h'
     ·rw[Wi (by simpa using h')]at o;cases o
    have:=PRep.sl (w:=w) (no:=(mem0 w).no) b v Z sz (l.map c) g hp (by rw[Wb];omega) (by rw[Wb];omega) hm (mem0_no w b) S (λi x o=>by
     have s:=E i x o
     rw[Wh,Wa s]at o
     simp only[Wx,Wz]at o
     rw[<- o,Q]) (λi x j d o A=>(hg i (E i x o) j d (by rw[o];exact A)).1) (λi x j d o A=>(hg i (E i x o) j d (by rw[o];exact A)).2)
    rw[Wb,F]at this;exact this
  ·obtain ⟨i,s,rfl⟩:=Us o;exact (G i s).1
inductive FOpDW(P:Program):{α:Type}->List Field->Nat->(α->List DV)->Nat->(α->Prop)->Prop
 | nil {off:Nat}:FOpDW P [] off (λ_:Unit=>[]) 0 λ_=>True
 | cons {α β:Type} {f:Field} {fs:List Field} {off z z':Nat} {c:α->List DV} {c':β->List DV} {ok:α->Prop} {okF:β->Prop} (ho:f.offset=off) (hc:P.cellsOf f.type=z) (h:OpDW P f.type c ok) (hs:FOpDW P fs (off+z) c' z' okF) :
   FOpDW P (f :: fs) off (λp:α×β=>c p.1++c' p.2) (z+z') λp=>ok p.1/\okF p.2
theorem fields_openDW{α:Type}{fs:List Field}{off z:Nat}{c:α->List DV}{r:α->Prop}(B:FOpDW P fs off c z r) :
  ∀ (H:Type) (enc:TypeId×Value->H) (w:World) (j:Nat) (e:Nat->Bool) (k:Bool) (n:Nat) (cs:List Value),cs.length=off+z ->
   (∀ (i:Nat) (f:Field),fs[i]?=some f->∃ y,DataW.trod enc P w j e k n f.type ((cs.drop f.offset).take (P.cellsOf f.type))=some y/\∀ q∈y.1.weights P f.type,q<=reachBytes)->∃ a,CRd w (cs.drop off) (c a)/\r a:=by
 induction B with
 | nil =>intro H enc w j e k n cs x _;rw[Vx Oo];exact ⟨(),⟨rfl,λi v d h=>by simp at h⟩,trivial⟩
 | @cons α β f fs off z z' c c' r okF ho hc h hs ih =>intro H enc w j e k n cs x o;obtain ⟨y,t,p⟩:=o 0 f rfl;obtain ⟨a,s,l⟩:=h H enc w j e k n _ _ t p;obtain ⟨b,u,m⟩:=ih H enc w j e k n cs Oo λi g A=>o (i+1) g (by simpa using A);rw[ho,hc]at s;refine ⟨(a,b),?_,l,m⟩;have:=s.append u;rw[<- UO,Vn]at this;exact this
theorem OpDW.struct{α:Type}{c:α->List DV}{A:α->Prop}{t z:Nat}{fs:Array Field}(B:P.underlying t=some (.struct fs))(G:P.cellsOf t=z)(I:FOpDW P fs.toList 0 c z A):OpDW P t c A:=by
 intro H s w k b l u E x h v;obtain ⟨xs,n,_,C,m,o,p⟩:=DataW.trod_struct B h;subst C;simp only[DataW.weights,B]at v;obtain ⟨a,D,r⟩:=fields_openDW I H s w k b l n E (by rw[m,G];omega) λi f y=>by
  have e:fs[i]?=some f:=by simpa using y
  have:=p i f e;have g:i<xs.length:=by rw[o];exact (VL.1 e).1
  refine ⟨xs[i],by rw[this,Wa g],λq F=>v q (DataW.weights_mem_each (j:=i) (t:=f.type) (d:=xs[i].1) ?_ ?_ q F)⟩
  ·rw[Wh,y];rfl
  ·rw[Wh,Wa g];rfl
 exact ⟨a,by simpa using D,r⟩
theorem OpDW.map{α β:Type}{c:α->List DV}{m:β->List DV}{l:α->Prop}{i:β->Prop}{t:TypeId}(h:OpDW P t c l)(g:α->β)(s:∀ a,m (g a)=c a)(k:∀ a,l a->i (g a)):OpDW P t m i:=by intro H j w d b e f p x q r;obtain ⟨a,n,o⟩:=h H j w d b e f p x q r;exact ⟨g a,by rw[s];exact n,k a o⟩
theorem OpDW.arg{α:Type}{t:TypeId}{c:α->List DV}{i:α->Prop}(h:OpDW P t c i){H:Type}{enc:TypeId×Value->H}{w:World}{e:Nat}{b:Nat->Bool}{f:Bool}{v:Value}{d:DataW H}{ps:List MemPlace}
  (k:DataW.Trod enc P w e b f t v d ps)(l:∀ n∈d.weights P t,n<=reachBytes):∃ a,CRd w v.cells.toList (c a)/\i a:=by obtain ⟨g,j⟩:=k;exact h H enc w e b f g _ _ j l
end
theorem bytes_int:Tryz.prog.bytesOf 3=8:=by kernel_rfl
theorem bytes_set:Tryz.prog.bytesOf 62=40:=by kernel_rfl
def RawSets(l:List Qe):Prop:=(∀ x∈l,x.slots.length<=17592186044416)/\l.length<=17592186044416
theorem op_set:OpDW Tryz.prog 62 Qe.c λx=>x.slots.length<=17592186044416 :=
 (OpDW.struct Tryz.underlying62 Ok (.cons (z:=1) rfl Ok Qbd.toW (.cons (z:=1) rfl Ok Qbd.toW (.cons (z:=1) rfl Ok (OpDW.slice (sz:=1) Tryz.underlying28 Ok Od (λ_=>rfl) Qbd.toW) .nil)))).map (λp=>⟨p.1,p.2.1,p.2.2.1⟩) (λ_=>rfl) λ_ h=>by have a:=h.2.2.1.2;rw[bytes_int]at a;unfold reachBytes at a;dsimp only;omega
theorem op_sets:OpDW Tryz.prog 26 (lC Qe.c) RawSets:=(OpDW.slice (sz:=3) Tryz.underlying26 Ok Od (λ_=>rfl) op_set).map id (λ_=>rfl) λl h=>⟨h.1,by
  have a:=h.2
  rw[bytes_set]at a
  unfold reachBytes at a
  show l.length<=_
  omega⟩
theorem rebuildSets_dc(d:Sp)(r:List Qe)(c:List Inc)(g:List Int)(mv:List Mov)(l:List Int)(a b e:Int)(q:SpW d)(o:RawSets r)(s:(∀ f∈c,IncW f)/\c.length<=9223372036854775807)(t:(∀ x∈g,I64 x)/\g.length<=9223372036854775807)(n:(∀ f∈mv,MovW f)/\mv.length<=9223372036854775807)
  (h:(∀ x∈l,I64 x)/\l.length<=9223372036854775807)(j:I64 a)(p:I64 b)(k:I64 e) :
  DCall Tryz.prog 3 [.agg (spC d),.sl (r.map Qe.c),.sl (c.map Inc.c),.sl (g.map iC),.sl (mv.map Mov.c),.sl (l.map iC),DI a,DI b,DI e] [] (DB true) []:=QcN ⟨Qfq q o (λm i=>(n.1 m i).2) h.1 h.2 j p k⟩
end Go.Proofs.YthadnbdbfpggdaaGreatDoor
