/- Parts of the proof. No condition. -/
import Derived.Test.YtkfnkecgcdhncaaGreatQM0
import Derived.Test.YtkfnkecgcdhncaaGreatQM1
import Derived.Test.YtkfnkecgcdhncaaGreatQM2
import Derived.Test.YtkfnkecgcdhncaaGreatQM3
import Derived.Test.YtkfnkecgcdhncaaGreatQM4
import Derived.Test.YtkfnkecgcdhncaaGreatQM5
import Derived.Test.YtkfnkecgcdhncaaGreatQM6
import Derived.Test.YtkfnkecgcdhncaaGreatQM7
import Derived.Test.YtkfnkecgcdhncaaGreatQM8
import Derived.Test.YtkfnkecgcdhncaaGreatQM9
import Derived.Test.YtkfnkecgcdhncaaGreatQM10
import Derived.Test.YtkfnkecgcdhncaaGreatQM11
import Derived.Test.YtkfnkecgcdhncaaGreatQM12
import Derived.Test.YtkfnkecgcdhncaaGreatQM13
import Derived.Test.YtkfnkecgcdhncaaGreatQM14
import Derived.Test.YtkfnkecgcdhncaaGreatQM15
import Derived.Test.YtkfnkecgcdhncaaGreatQM16
import Derived.Test.YtkfnkecgcdhncaaGreatQM17
import Derived.Test.YtkfnkecgcdhncaaGreatQM18
import Derived.Test.YtkfnkecgcdhncaaGreatQM19
import Derived.Test.YtkfnkecgcdhncaaGreatQM20
import Derived.Test.YtkfnkecgcdhncaaGreatQM21
import Derived.Test.YtkfnkecgcdhncaaGreatQM22
import Derived.Test.YtkfnkecgcdhncaaGreatQM23
import Derived.Test.YtkfnkecgcdhncaaGreatQM24
import Derived.Test.YtkfnkecgcdhncaaGreatQM25
import Derived.Test.YtkfnkecgcdhncaaGreatQM26
import Derived.Test.YtkfnkecgcdhncaaGreatQM27
import Derived.Test.YtkfnkecgcdhncaaGreatQK1
import Derived.IntWalk
import Derived.Laws.StructEq
import Derived.KernelRfl
import Derived.Laws.CopyRow
import Derived.Laws.AppendOwn
import Derived.Laws.OwnMore
import Derived.Laws.MakeOwn
import Derived.Great.BuildSlice
import Derived.WalkKit
import Derived.WalkSpells
import Derived.WalkLawsBesides
import Derived.Lib.Hide
import Derived.Orders
import Derived.RegionTactic
import Derived.Deep.RegionHeld
import Derived.Test.YtkfnkecgcdhncaaGreatRows
import Derived.Maps.AppendAt
import Derived.Deep.QuietTactic
import Derived.BigQuiet
import Derived.Shelf.Spec.SlicesInsertGrow
import Derived.Test.YtkfnkecgcdhncaaGreatChecked
import Derived.Laws.Externs
import Derived.Shelf.Sort.Plain
import Derived.Shelf.Slices.In.SortNone
import Derived.Shelf.Slices.Cells
import Derived.ChangeSlices
import Derived.Deep.Slices
import Derived.Below
noncomputable section
namespace Go.Proofs.YtkfnkecgcdhncaaGreat
open Go.RowKit
set_option linter.unusedSimpArgs false
set_option linter.unusedVariables false
section
variable{h:Hp}{BL:List (List Itm)}
theorem slot_of(H:QG h BL){x:Itm}(g:x∈BL.flatten){q:Int}(f:SlotX h.space x q):QaC (szS h.space) BL.flatten q.toNat:=by obtain ⟨p,r,d,a,k,b,c,e⟩:=f;exact ⟨x,g,p,r,d,a,k,b,c,Oo⟩
theorem refw_in(H:QG h BL){w:Int}(g:RefW (szS h.space) BL.flatten w):w=0\/(1<=w/\w<=h.space.ws.length):=by
 rcases g with k | ⟨k,r,d,x,c,p,f,e⟩
 ·exact .inl k
 ·have a:=H.sp.each x c;have b:=Itm.posOk H.sp.ok a f;have:=Jo H.sp.ok.shp a.inc.ch.lt (p:=p) Oo;exact .inr ⟨k,Oo⟩
theorem need_of(H:QG h BL){m:Nat}{x c:Itm}(f:x∈BL.flatten.drop m)(s:c∈BL.flatten.take m){q w:Int}(u:SlotX h.space x q)(r:¬ w=0/\0<=w/\w<=h.space.ws.length)(n:X7 h.space (w-1)<h.space.fs.length)(p:h.space.fs[X7 h.space (w-1)].ow=c.i.seq):QaL h.space q w:=by
 have a:=H.order;rw[<- Vu m BL.flatten]at a;have b:=(W5.1 a).2.2;have o:x∈BL.flatten:=Uj f;have g:c∈BL.flatten:=VU s;obtain ⟨k,t,l⟩:=QdN H o u;have e:=(H.sp.each c g).inc.toIncC;have d:=(H.sp.each x o).inc.toIncC;have i:=d.ch.lt _ l;have j:=(e.ow _ n).1 p;have a:=b c s x f;refine ⟨⟨r.1,r.2.2,k,t⟩,i,n,?_,?_,?_⟩
 ·rw[(d.ow _ i).2 l];have:=d.sq;omega
 ·rw[p];have:=e.sq;omega
 ·rw[d.st _ i l,e.st _ n j];unfold stmp at a;exact a
def KnI(s:Sp)(D:Int->Prop)(B:Nat)(R:List Qe)(F:List Qa7):Prop:=Qo R/\XB R/\(∀ f t q,InS R f t q<->D q/\QaL s q (wAt s q)/\f=(X7 s q:Int)/\t=(X7 s (wAt s q-1):Int))/\(∀ p∈F,InS R p.frm p.to p.slot)/\F.length<=B
theorem KnI.iff{s:Sp}{D b:Int->Prop}{B a:Nat}{R:List Qe}{F:List Qa7}(k:KnI s D B R F)(c:∀ z,D z<->b z)(d:B<=a):KnI s b a R F:=⟨k.1,k.2.1,λf t q=>by rw[k.2.2.1 f t q,c],k.2.2.2.1,Ug k.2.2.2.2 d⟩
theorem KnI.note{s:Sp}(j:ZL s){D:Int->Prop}{B:Nat}{R:List Qe}{F:List Qa7}(k:KnI s D B R F)(q:Int):KnI s (λz=>D z\/z=q) B (QfW s R q (wAt s q)) F:=by
 obtain ⟨g,h,d⟩:=noteK_ok j k.1 k.2.1 q (wAt s q);refine ⟨g,h,λf t z=>?_,λp i=>(d _ _ _).2 (.inl (k.2.2.2.1 p i)),k.2.2.2.2⟩;rw[d,k.2.2.1];constructor
 ·rintro (⟨a,b⟩ | ⟨a,b,c,e⟩)
  ·exact ⟨.inl a,b⟩
  ·rw[e];exact ⟨.inr rfl,a,b,c⟩
 ·rintro ⟨a | a,b⟩
  ·exact .inl ⟨a,b⟩
  ·rw[a]at b;exact .inr ⟨b.1,b.2.1,b.2.2,a⟩
theorem kn_for{α γ:Type}{s:Sp}{m:Nat}(l:List α)(h:m=l.length)(u:l.length<=1000000)(E:α->Int->Prop)(c:Nat){D:Int->Prop}{B:Nat}{R:List Qe}{F:List Qa7}{d:List Qe×List Qa7×Int->Option (LS (List Qe×List Qa7×Int) ((List Qe×List Qa7) ⊕ γ))}(o:KnI s D B R F)
  (n:∀ i (hi:i<l.length) (D':Int->Prop) B' R' F',B'+c<=B+l.length*c->KnI s D' B' R' F'->Gd (λa=>∃ R'' F'',a=LS.go (R'',F'',w64 ((i:Int)+1))/\KnI s (λz=>D' z\/E l[i] z) (B'+c) R'' F'') (d (R',F',(i:Int)))) :
  Gd (λr=>∃ R' F',r = .inl (R',F')/\KnI s (λz=>D z\/∃ a∈l,E a z) (B+l.length*c) R' F') (Qh (λst:List Qe×List Qa7×Int=>if st.2.2<(m:Int) then d st else some (.out (.inl (st.1,st.2.1)))) (R,F,0)):=by
 subst h;refine Gd.for l.length (λ(t:List Qe×List Qa7) j=>(t.1,t.2,j)) (λi t=>KnI s (λz=>D z\/∃ a∈l.take i,E a z) (B+i*c) t.1 t.2) (R,F) rfl (λ_ _=>rfl) Oo (o.iff (λz=>by simp) Oo) (λi hi t b=>?_) (λt b=>by rw[WR]at b;exact ⟨_,_,rfl,b⟩);have p:(i+1)*c=i*c+c:=Vq i c;have q:(i+1)*c<=l.length*c:=WB c hi;refine (n i hi _ _ t.1 t.2 Oo b).mono λa ha=>?_;obtain ⟨e,f,rfl,g⟩:=ha;refine .inl ⟨(e,f),rfl,g.iff (λz=>?_) Oo⟩;rw[QI hi];constructor
 ·rintro ((k | ⟨a,ha,k⟩) | k)
  ·exact .inl k
  ·exact .inr ⟨a,Wf _ ha,k⟩
  ·exact .inr ⟨_,Wj _ (Wo.2 rfl),k⟩
 ·rintro (k | ⟨a,ha,k⟩)
  ·exact .inl (.inl k)
  ·rcases Wn.1 ha with ha | ha
   ·exact .inl (.inr ⟨a,ha,k⟩)
   ·rw[Wo.1 ha]at k;exact .inr k
set_option maxHeartbeats 2000000 in
theorem QgQ{l:List Int}{k:Int}(hl:∀ x∈l,I64 x)(S:l.length<=9223372036854775807)(hk:I64 k):QgO l k=some true:=by
 obtain ⟨d,e0,hd⟩:=new_deck hl S;refine Gd.eq ?_;unfold QgO;refine .call e0 (.bind (heap_g hd) λr o=>?_);obtain ⟨c,hM⟩:=o;obtain ⟨g,H⟩:=hM.inv;generalize r.1=h at H;have u:=H.sp.ok;have K:=H.sp.w;have ai:=H.count;have U:h.belts.flatten=g.flatten.map Itm.i:=H.flat;have aj:=Z7 u;refine .call (all15_c H.bsz) ?_;rw[U];have y:(g.flatten.map Itm.i).length=g.flatten.length:=Wb ..;rw[y];have e1:w64 ((g.flatten.length:Int)+1)=(g.flatten.length:Int)+1:=Qd Oo;rw[e1];refine .call (mod_c hk (n:=(g.flatten.length:Int)+1) Oo) ?_;have V:=V3 k (show (g.flatten.length:Int)+1≠0 by omega);have W:=V4 k (show 0<(g.flatten.length:Int)+1 by omega);generalize k%((g.flatten.length:Int)+1)=mi at V W;obtain ⟨m,rfl⟩:∃ m:Nat,mi=(m:Int):=⟨mi.toNat,Oo⟩;have X:((g.flatten.map Itm.i).take (Int.toNat (m:Int))).drop (Int.toNat 0)=(g.flatten.take m).map Itm.i:=by rw[Wd,Yp];rfl
 rw[X];have E:(0:Int)<=0/\0<=(m:Int)/\(m:Int)<=(g.flatten.length:Int):=⟨Oo,Oo,Oo⟩;refine Gd.bndR (P:=λr=>∃ R F,r = .inl (R,F)/\KnI h.space (λz=>False\/∃ x∈g.flatten,∃ a∈Qdx h.space x,z∈(Qb8 h.space a).1) (0+g.flatten.length*15728640) R F) ?_ (λb w=>?_) (λr o=>by obtain ⟨_,_,e,_⟩:=o;cases e)
 ·refine kn_for g.flatten rfl Oo (λx z=>∃ a∈Qdx h.space x,z∈(Qb8 h.space a).1) 15728640 (D:=λ_=>False) (B:=0) ⟨⟨Os,Os⟩,by intro x s;simp at s,λf t q=>⟨λk=>by obtain ⟨x,s,_⟩:=k;simp at s,λk=>k.1.elim⟩,Os,Wl _⟩ λi O D1 B1 R1 F1 am k1=>?_;dsimp only;refine Gd.bndR (P:=λr=>∃ R F,r = .inl (R,F)/\KnI h.space (λz=>D1 z\/∃ a∈Qdx h.space g.flatten[i],z∈(Qb8 h.space a).1) (B1+15728640) R F) ?_ (λb w=>by obtain ⟨R2,F2,e,J⟩:=w;cases e;exact .some ⟨_,_,rfl,J⟩) (λr o=>by obtain ⟨_,_,e,_⟩:=o;cases e);have s:g.flatten[i]∈g.flatten:=Wc O;refine .atN (by rw[y];exact O) ?_;rw[Va];refine .call (all_spec u K (H.sp.each _ s)) ?_;dsimp only;have ak:=adrs_lenJ H s;have Y:=adrs_rngJ H s;refine (kn_for (Qdx h.space g.flatten[i]) rfl Oo (λa z=>z∈(Qb8 h.space a).1) 960 k1 λj hj D2 B2 R2 F2 an J=>?_).mono λr o=>by obtain ⟨R,F,e,k⟩:=o;exact ⟨R,F,e,k.iff (λ_=>Iff.rfl) Oo⟩
  dsimp only;have L:(Qdx h.space g.flatten[i])[j]∈Qdx h.space g.flatten[i]:=Wc hj;refine Gd.bndR (P:=λr=>∃ R F,r = .inl (R,F)/\KnI h.space (λz=>D2 z\/z∈(Qb8 h.space (Qdx h.space g.flatten[i])[j]).1) (B2+960) R F) ?_ (λb w=>by obtain ⟨R2,F2,e,J⟩:=w;cases e;exact .some ⟨_,_,rfl,J⟩) (λr o=>by obtain ⟨_,_,e,_⟩:=o;cases e);refine .atN hj (.call (fields_c u.shp (Ze u.fm) K (Y _ L)) ?_);obtain ⟨f1,f2⟩:=flds_rng u K (a:=(Qdx h.space g.flatten[i])[j]);refine (kn_for (Qb8 h.space (Qdx h.space g.flatten[i])[j]).1 rfl Oo (λq z=>z=q) 64 J λn S D3 B3 R3 F3 ao T=>?_).mono λr o=>by obtain ⟨R,F,e,k⟩:=o;exact ⟨R,F,e,k.iff (λz=>by simp) Oo⟩
  dsimp only;have M:=Wc S;have G:=(fld_mem H s).1 ⟨_,L,M⟩;obtain ⟨q0,q1⟩:=f2 _ M;refine Gd.bndR (P:=λr=>∃ R F,r = .inl (R,F)/\KnI h.space (λz=>D3 z\/z=(Qb8 h.space (Qdx h.space g.flatten[i])[j]).1[n]) (B3+64) R F) ?_ (λb w=>by obtain ⟨R2,F2,e,J⟩:=w;cases e;exact .some ⟨_,_,rfl,J⟩) (λr o=>by obtain ⟨_,_,e,_⟩:=o;cases e);refine .atN S ?_;generalize (Qb8 h.space (Qdx h.space g.flatten[i])[j]).1[n]=q at q0 q1 G;have hw:wAt h.space q=h.space.ws[q.toNat]' Oo:=QdL q0 Oo;refine .at q0 Oo ?_;rw[<- hw];clear hw;have Z:0<=wAt h.space q/\wAt h.space q<=18446744073709551615:=QfH K q;have v:=T.1.sz T.2.1;have er:RecR h.space R3 q (wAt h.space q)=(QfW h.space R3 q (wAt h.space q),0):=by unfold RecR QfW;rw[if_pos ⟨u,T.1⟩]
  have A:=T.note u q;have aa:=refw_in H (by
   have:=H.refs _ (slot_of H s G)
   rwa [show ((q.toNat:Nat):Int)=q by omega]at this)
  refine .call (record_c K v.1 v.2 Z) ?_;rw[er];refine .pos rfl (.ite (λ_=>.some ⟨_,_,rfl,A.iff (λ_=>Iff.rfl) Oo⟩) λQ=>.ite (λ_=>.some ⟨_,_,rfl,A.iff (λ_=>Iff.rfl) Oo⟩) λap=>?_);have ab:1<=wAt h.space q/\wAt h.space q<=h.space.ws.length:=aa.resolve_left Q;have ac:QbO .i64 (w64 (wu (wAt h.space q-1))) (wu h.space.sh)=(X7 h.space (wAt h.space q-1):Int):=by rw[Xv Oo,Qd Oo,shr_k u.shp.sh (wAt h.space q-1).toNat Oo];rfl
  have ad:QbO .i64 q (wu h.space.sh)=(X7 h.space q:Int):=by rw[shr_k u.shp.sh q.toNat Oo];rfl
  rw[ac,ad];have w:=Qet u (a:=wAt h.space q-1) Oo Oo;have ae:g.flatten[i]∈g.flatten.drop m:=by rw[WN];exact ⟨i-m,by rw[Ww];omega,by rw[UQ];congr 1;omega⟩
  refine .pos (wu_sh u.shp.sh) (.pos E ?_);have af:((g.flatten.take m).map Itm.i).length<=64:=by rw[Wb,Wi];omega
  refine Gd.for ((g.flatten.take m).map Itm.i).length (λ(F:List Qa7) e=>(F,e)) (λe F=>(∀ p∈F,InS (QfW h.space R3 q (wAt h.space q)) p.frm p.to p.slot)/\F.length<=B3+e) F3 rfl (λ_ _=>rfl) Oo ⟨A.2.2.2.1,A.2.2.2.2⟩ (λe he F C=>?_) (λF C=>⟨_,F,rfl,A.1,A.2.1,A.2.2.1,C.1,Ug C.2 (Nat.add_le_add_left af B3)⟩);have ag:e<(g.flatten.take m).length:=by rw[Wb]at he;exact he
  refine .atN he (.atN w ?_);rw[Va];refine .ite (λho=>?_) λ_=>.some (.inl ⟨F,rfl,C.1,by have:=C.2;omega⟩);have I:=need_of H ae (Wc ag) G ⟨Q,Oo,ab.2⟩ w ho;refine .pos ?_ (.some (.inl ⟨_,rfl,λp hp=>?_,?_⟩))
  ·rw[WK];have h2:=C.2;dsimp only at h2 ⊢;omega
  ·rcases Wn.1 hp with hp | hp
   ·exact C.1 p hp
   ·rw[Wo.1 hp];exact (A.2.2.1 _ _ _).2 ⟨.inr rfl,I,rfl,rfl⟩
  ·rw[We,WK];have h2:=C.2;dsimp only at h2 ⊢;omega
 ·obtain ⟨R,F,e,k⟩:=w;cases e
  have v:=k.1.sz k.2.1;have al:=k.2.2.2.2;refine Gd.bndR (P:=λr=>r = .inl ()) ?_ (λb _=>?_) (λr o=>by cases o)
  ·refine Gd.for F.length (λ(_:Unit) i=>i) (λ_ _=>True) () rfl (λ_ _=>rfl) Oo trivial (λi O _ _=>?_) (λ_ _=>rfl);refine .atN O (.call (rhas_c v _ _ _) (.pos (J6 (k.2.2.2.1 _ (Wc O))) (.some (.inl ⟨(),rfl,trivial⟩))))
  ·have N:misL h.space R g=[]:=List.eq_nil_iff_forall_not_mem.2 λz hz=>by obtain ⟨⟨x,s,hq⟩,I,ah⟩:=(misL_mem H R).1 hz;obtain ⟨a,ha,hp⟩:=(fld_mem H s).2 hq;exact ah ((k.2.2.1 _ _ _).2 ⟨.inr ⟨x,s,a,ha,hp⟩,I,rfl,rfl⟩)
   refine .call (missing_c H k.1 v) ?_;rw[N];exact .pos rfl (.call awake_c (.some rfl))
end
theorem barrierKnows_dc(l:List Int)(k:Int)(a:(∀ x∈l,I64 x)/\l.length<=9223372036854775807)(b:I64 k):DCall Tryz.prog 4 [.sl (l.map iC),DI k] [] (DB true) []:=QgP ⟨QgQ a.1 a.2 b⟩
end Go.Proofs.YtkfnkecgcdhncaaGreat
