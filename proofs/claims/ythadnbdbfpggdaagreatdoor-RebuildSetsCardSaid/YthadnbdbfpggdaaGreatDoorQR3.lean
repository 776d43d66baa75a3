/- Parts of the proof. No condition. -/
import Derived.Test.YthadnbdbfpggdaaGreatDoorQR0
import Derived.Test.YthadnbdbfpggdaaGreatDoorQR2
import Derived.Test.YthadnbdbfpggdaaGreatDoorChecked
noncomputable section
namespace Go.Proofs.YthadnbdbfpggdaaGreatDoor
open Go.RowKit
set_option linter.unusedSimpArgs false
set_option linter.unusedVariables false
inductive PlE(env:Env){β:Type}:List Nat->List (Nat×(β->DV))->(β->Env)->Prop
 | nil:PlE env [] [] (λ_=>[])
 | put {k:Nat} {f:β->DV} {l:List (Nat×(β->DV))} {E:β->Env}:PlE env [] l E->PlE env [] ((k,f) :: l) (λb=>(k,f b) :: E b)
 | lit {k:Nat} {v:Value} {l:List Nat} {p:List (Nat×(β->DV))} {E:β->Env}:env.get k = .lit v->PlE env l p E->PlE env (k :: l) p (λb=>(k,.lit v) :: E b)
 | own {k s i n:Nat} {l:List Nat} {p:List (Nat×(β->DV))} {E:β->Env}:env.get k = .own s i n->PlE env l p E->PlE env (k :: l) p (λb=>(k,.own s i n) :: E b)
 | ptr {k s i n:Nat} {l:List Nat} {p:List (Nat×(β->DV))} {E:β->Env}:env.get k = .ptr s i n->PlE env l p E->PlE env (k :: l) p (λb=>(k,.ptr s i n) :: E b)
 | sl {k:Nat} {v:List (List DV)} {l:List Nat} {p:List (Nat×(β->DV))} {E:β->Env}:env.get k = .sl v->PlE env l p E->PlE env (k :: l) p (λb=>(k,.sl v) :: E b)
 | agg {k:Nat} {v:List DV} {l:List Nat} {p:List (Nat×(β->DV))} {E:β->Env}:env.get k = .agg v->PlE env l p E->PlE env (k :: l) p (λb=>(k,.agg v) :: E b)
 | tup {k:Nat} {v:List DV} {l:List Nat} {p:List (Nat×(β->DV))} {E:β->Env}:env.get k = .tup v->PlE env l p E->PlE env (k :: l) p (λb=>(k,.tup v) :: E b)
 | fn {k f:Nat} {v:List DV} {l:List Nat} {p:List (Nat×(β->DV))} {E:β->Env}:env.get k = .fn f v->PlE env l p E->PlE env (k :: l) p (λb=>(k,.fn f v) :: E b)
inductive Rw{β:Type}:List DV->List (Nat×(β->DV))->(β->List DV)->Prop
 | nil {row:List DV}:Rw row [] (λ_=>row)
 | hit {d:DV} {row:List DV} {f:β->DV} {l:List (Nat×(β->DV))} {R:β->List DV}:Rw row l R->Rw (d :: row) ((0,f) :: l) (λb=>f b :: R b)
 | miss {d:DV} {row:List DV} {n:Nat} {f:β->DV} {l:List (Nat×(β->DV))} {R:β->List DV}:Rw row ((n,f) :: l) R->Rw (d :: row) ((n+1,f) :: l) (λb=>d :: R b)
inductive PlS(sto:Sto){β:Type}:List Nat->List (Nat×List (Nat×(β->DV)))->List (Nat×(β->Ob))->(β->Sto)->Prop
 | nil:PlS sto [] [] [] (λ_=>[])
 | put {k:Nat} {f:β->Ob} {l:List (Nat×(β->Ob))} {S:β->Sto}:PlS sto [] [] l S->PlS sto [] [] ((k,f) :: l) (λb=>(k,f b) :: S b)
 | cel {k z:Nat} {fz:Bool} {row:List DV} {q:List (Nat×(β->DV))} {R:β->List DV} {c:List (Nat×List (Nat×(β->DV)))} {l:List (Nat×(β->Ob))} {S:β->Sto}:sto.get k=some ⟨z,false,fz,[row]⟩->Rw row q R->PlS sto [] c l S->PlS sto [] ((k,q) :: c) l (λb=>(k,⟨z,false,fz,[R b]⟩) :: S b)
 | keep {k z:Nat} {a fz:Bool} {els:List (List DV)} {ks:List Nat} {c:List (Nat×List (Nat×(β->DV)))} {l:List (Nat×(β->Ob))} {S:β->Sto}:sto.get k=some ⟨z,a,fz,els⟩->PlS sto ks c l S->PlS sto (k :: ks) c l (λb=>(k,⟨z,a,fz,els⟩) :: S b)
inductive RI:Sto->Ren->Ren->Prop
 | nil {ex:Ren}:RI [] ex ex
 | skip {k s:Nat} {ob:Ob} {S:Sto} {ex ρ:Ren}:ex.get k=some s->RI S ex ρ->RI ((k,ob) :: S) ex ρ
 | cons {k:Nat} {ob:Ob} {S:Sto} {ex ρ:Ren}:ex.get k=none->RI S ex ρ->RI ((k,ob) :: S) ex ((k,k) :: ρ)
theorem wkJ{n0:Nat}{d a:DSt}{b c:List Nat}{ρ:Ren}(e:Ren)(i:RI a.sto e ρ:=by repeat (first | exact RI.nil | apply RI.cons rfl | apply RI.skip rfl))
  (g:CvE d.sto ρ d.env a.env b:=by repeat' (first | exact CvE.nil | apply CvE.cons | exact .lit | exact .own rfl | exact .sl | exact .nil | exact .ptr rfl | exact .ownE rfl (by first | assumption | exact Eq.symm Oa | omega | (simp;done) | (simp;omega)) | exact .frzM rfl (by first | assumption | exact Eq.symm Oa | omega | (simp;done) | (simp;omega)) | exact .dfzM rfl (λ_=>rfl) (λ_=>rfl) (by first | assumption | exact Eq.symm Oa | omega | (simp;done) | (simp;omega)) | exact .any | exact .pp | exact CvL.nil | apply CvL.cons | apply Cv.agg | apply Cv.tup | apply Cv.fn))
  (f:CvS d.sto ρ a.sto c:=by repeat' (first | exact CvS.nil | apply CvS.cons rfl rfl | exact .arr rfl | exact CvO.same (dpM λ_=>rfl) | apply CvO.rowAt (λ_=>rfl) | apply CvO.box | exact CvL.nil | apply CvL.cons | exact CvL.numbers _ | exact CvL.bools _ | exact .lit | exact .own rfl | exact .sl | exact .nil | exact .ptr rfl | exact .ownE rfl (by first | assumption | exact Eq.symm Oa | omega | (simp;done) | (simp;omega)) | exact .frzM rfl (by first | assumption | exact Eq.symm Oa | omega | (simp;done) | (simp;omega)) | exact .dfzM rfl (λ_=>rfl) (λ_=>rfl) (by first | assumption | exact Eq.symm Oa | omega | (simp;done) | (simp;omega)) | exact .any | exact .pp))
  (h:okR ρ (b++c) n0 a.nxt=true:=by rfl):ZB n0 d a:=wkE ρ g f h
structure ExIs(ex:Ren):Prop where
theorem wkK{n0:Nat}{d a:DSt}{b c:List Nat}{ρ e:Ren}(j:ExIs e)(i:RI a.sto e ρ:=by repeat (first | exact RI.nil | apply RI.cons rfl | apply RI.skip rfl))
  (g:CvE d.sto ρ d.env a.env b:=by repeat' (first | exact CvE.nil | apply CvE.cons | exact .lit | exact .own rfl | exact .sl | exact .nil | exact .ptr rfl | exact .ownE rfl (by first | assumption | exact Eq.symm Oa | omega | (simp;done) | (simp;omega)) | exact .frzM rfl (by first | assumption | exact Eq.symm Oa | omega | (simp;done) | (simp;omega)) | exact .dfzM rfl (λ_=>rfl) (λ_=>rfl) (by first | assumption | exact Eq.symm Oa | omega | (simp;done) | (simp;omega)) | exact .any | exact .pp | exact CvL.nil | apply CvL.cons | apply Cv.agg | apply Cv.tup | apply Cv.fn))
  (f:CvS d.sto ρ a.sto c:=by repeat' (first | exact CvS.nil | apply CvS.cons rfl rfl | exact .arr rfl | exact CvO.same (dpM λ_=>rfl) | apply CvO.rowAt (λ_=>rfl) | apply CvO.box | exact CvL.nil | apply CvL.cons | exact CvL.numbers _ | exact CvL.bools _ | exact .lit | exact .own rfl | exact .sl | exact .nil | exact .ptr rfl | exact .ownE rfl (by first | assumption | exact Eq.symm Oa | omega | (simp;done) | (simp;omega)) | exact .frzM rfl (by first | assumption | exact Eq.symm Oa | omega | (simp;done) | (simp;omega)) | exact .dfzM rfl (λ_=>rfl) (λ_=>rfl) (by first | assumption | exact Eq.symm Oa | omega | (simp;done) | (simp;omega)) | exact .any | exact .pp))
  (h:okR ρ (b++c) n0 a.nxt=true:=by rfl):ZB n0 d a:=wkE ρ g f h
theorem wJ{T:Prop}(a:Ren)(h:ExIs a->T:=by
  intro hx H
  have e:=se H
  subst e
  first | exact wkK hx | exact ⟨_,rfl,wkK hx⟩):T:=h ⟨⟩
section
variable{P:Program}{nt n0:Nat}{Q:Exit->DSt->Prop}{st:DSt}
theorem cT{β ρ:Type}{x y:Code}{Y:Option β}{K:β->Option ρ}{r:ρ}(c:List Nat)(e:List (Nat×(β->DV)))(a:List Nat)(cS:List (Nat×List (Nat×(β->DV))))(g:List (Nat×(β->Ob)))(n:Nat){E:β->Env}{S:β->Sto}
  (f:∀ z,Sm Y z->DWp P nt n0 x (QcT (λs=>ZB n0 s ⟨E z,S z,n⟩) Q) st)(d:∀ b,Sm (K b) r->DWp P nt n0 y Q ⟨E b,S b,n⟩)
  (h:PlE st.env c e E:=by repeat (first | exact PlE.nil | apply PlE.lit rfl | apply PlE.own rfl | apply PlE.ptr rfl | apply PlE.sl rfl | apply PlE.agg rfl | apply PlE.tup rfl | apply PlE.fn rfl | apply PlE.put))(i:PlS st.sto a cS g S:=by repeat (first | exact PlS.nil | apply PlS.keep rfl | (apply PlS.cel rfl;repeat (first | exact Rw.nil | apply Rw.hit | apply Rw.miss)) | apply PlS.put)):Sm (Y.bind K) r->DWp P nt n0 (.seq x y) Q st:=ct (λb=>⟨E b,S b,n⟩) f d
theorem cU{β ρ:Type}{x y:Code}{Y:Option (β ⊕ ρ)}{K:β->Option ρ}{r:ρ}(c:List Nat)(e:List (Nat×(β->DV)))(a:List Nat)(cS:List (Nat×List (Nat×(β->DV))))(g:List (Nat×(β->Ob)))(n:Nat){E:β->Env}{S:β->Sto}
  (f:∀ z,(∀ r',z = .inr r'->r'=r)->Sm Y z->DWp P nt n0 x (QcT (λs=>∃ b,z = .inl b/\ZB n0 s ⟨E b,S b,n⟩) Q) st)(d:∀ b,Sm (K b) r->DWp P nt n0 y Q ⟨E b,S b,n⟩)
  (h:PlE st.env c e E:=by repeat (first | exact PlE.nil | apply PlE.lit rfl | apply PlE.own rfl | apply PlE.ptr rfl | apply PlE.sl rfl | apply PlE.agg rfl | apply PlE.tup rfl | apply PlE.fn rfl | apply PlE.put))(i:PlS st.sto a cS g S:=by repeat (first | exact PlS.nil | apply PlS.keep rfl | (apply PlS.cel rfl;repeat (first | exact Rw.nil | apply Rw.hit | apply Rw.miss)) | apply PlS.put)):Sm (bndR Y K) r->DWp P nt n0 (.seq x y) Q st:=cu (λb=>⟨E b,S b,n⟩) f d
theorem ZB.frz{env:Env}{sto:Sto}{nxt s:Nat}{l:Ob}(k:sto.get s=some l):ZB n0 ⟨env,sto,nxt⟩ ⟨env,(s,{ l with frz:=true }) :: sto,nxt⟩:=λC _ a w q=>by
 obtain ⟨m,rfl,c,o⟩:=q;obtain ⟨p,g⟩:=Qeh c.inv [s];refine ⟨Go.Proofs.YthadnbdbfpggdaaGreatDoor.frz m [s],rfl,⟨p,c.M,c.size,c.defers,c.org.trans g.ent,c.lim0,λj=>(c.env j).ext g.toExt,λf h b=>?_⟩,λf b=>?_⟩
 ·simp only[Sto.get_cons]at b;split at b
  ·rename_i d;subst d;injection b with b;subst b;exact QgN c.inv Os (c.sto _ _ k)
  ·rename_i d;exact frz_keeps c.inv (c.sto f h b) (by simpa using d)
 ·have d:=o f b;have n:f≠s:=λe=>by subst e;obtain ⟨e,i,_⟩:=c.sto f _ k;rw[d]at i;cases i
  rw[g.same f (by simpa using n)];exact d
theorem d_fz{c:Code}{a:Ob}(s:Nat)(b:st.sto.get s=some a)(h:DWp P nt n0 c Q ⟨st.env,(s,{ a with frz:=true }) :: st.sto,st.nxt⟩):DWp P nt n0 c Q st:=Qq (ZB.frz b) h
theorem lP{β σ:Type}{a:Code}{f:σ->Option (LS σ β)}{c:σ}{z:β}(e:List Nat)(d:List (Nat×(σ->DV)))(i:List Nat)(cS:List (Nat×List (Nat×(σ->DV))))(j:List (Nat×(σ->Ob)))(n:Nat){E:σ->Env}{S:σ->Sto}
  (h:∀ s y,(∀ b,y = .out b->b=z)->Sm (f s) y->DWp P nt n0 a (QcT (λs'=>∃ x',y = .go x'/\ZB n0 s' ⟨E x',S x',n⟩) Q) ⟨E s,S s,n⟩)
  (k:PlE st.env e d E:=by repeat (first | exact PlE.nil | apply PlE.lit rfl | apply PlE.own rfl | apply PlE.ptr rfl | apply PlE.sl rfl | apply PlE.agg rfl | apply PlE.tup rfl | apply PlE.fn rfl | apply PlE.put))(l:PlS st.sto i cS j S:=by repeat (first | exact PlS.nil | apply PlS.keep rfl | (apply PlS.cel rfl;repeat (first | exact Rw.nil | apply Rw.hit | apply Rw.miss)) | apply PlS.put))(g:ZB n0 st ⟨E c,S c,n⟩:=by exact wkJ []):Sm (Qf f c) z->DWp P nt n0 (.loop a) Q st:=lp (λs=>⟨E s,S s,n⟩) g h
theorem lQ{β σ:Type}{a:Code}{f:σ->Option (LS σ β)}{c:σ}{z:β}(d:Ren)(e:List Nat)(i:List (Nat×(σ->DV)))(j:List Nat)(cS:List (Nat×List (Nat×(σ->DV))))(k:List (Nat×(σ->Ob)))(n:Nat){E:σ->Env}{S:σ->Sto}
  (g:∀ s y,(∀ b,y = .out b->b=z)->Sm (f s) y->DWp P nt n0 a (QcT (λs'=>∃ x',y = .go x'/\ZB n0 s' ⟨E x',S x',n⟩) Q) ⟨E s,S s,n⟩)
  (l:PlE st.env e i E:=by repeat (first | exact PlE.nil | apply PlE.lit rfl | apply PlE.own rfl | apply PlE.ptr rfl | apply PlE.sl rfl | apply PlE.agg rfl | apply PlE.tup rfl | apply PlE.fn rfl | apply PlE.put))(m:PlS st.sto j cS k S:=by repeat (first | exact PlS.nil | apply PlS.keep rfl | (apply PlS.cel rfl;repeat (first | exact Rw.nil | apply Rw.hit | apply Rw.miss)) | apply PlS.put))(h:ExIs d->ZB n0 st ⟨E c,S c,n⟩:=by intro hx;exact wkK hx):Sm (Qf f c) z->DWp P nt n0 (.loop a) Q st:=lp (λs=>⟨E s,S s,n⟩) (h ⟨⟩) g
end
instance i2:TyI Tryz.prog 2 ⟨.int .i64,1,8,[.lit (vI)]⟩:=⟨⟨Tryz.underlying2,Ok,⟨vI,Ok,Ok,Ok,rfl⟩⟩⟩
instance i3:TyI Tryz.prog 3 ⟨.int .i64,1,8,[.lit (vI)]⟩:=⟨⟨Tryz.underlying3,Ok,⟨vI,Ok,Ok,Ok,rfl⟩⟩⟩
instance i4:TyI Tryz.prog 4 ⟨.bool,1,1,[.lit (Value.bool false)]⟩:=⟨⟨Tryz.underlying4,Ok,⟨Value.bool false,Ok,Ok,Ok,rfl⟩⟩⟩
instance i5:TyI Tryz.prog 5 ⟨.int .u8,1,1,[.lit (vU)]⟩:=⟨⟨Tryz.underlying5,Ok,⟨vU,Ok,Ok,Ok,rfl⟩⟩⟩
instance i6:TyI Tryz.prog 6 ⟨.int .u8,1,1,[.lit (vU)]⟩:=⟨⟨Tryz.underlying6,Ok,⟨vU,Ok,Ok,Ok,rfl⟩⟩⟩
instance i7:TyI Tryz.prog 7 ⟨.struct [(0,1),(1,1),(2,1),(3,1)],4,24,[.lit (vI),.lit (vI),.lit (Value.bool false),.lit (vU)]⟩:=⟨⟨⟨_,Tryz.underlying7,Ok,Ok⟩,Ok,⟨Value.agg #[vI,vI,Value.bool false,vU],Ok,Ok,Ok,⟨_,rfl⟩⟩⟩⟩
instance i8:TyI Tryz.prog 8 ⟨.struct [(0,1),(1,1),(2,1),(3,1)],4,24,[.lit (vI),.lit (vI),.lit (Value.bool false),.lit (vU)]⟩:=⟨⟨⟨_,Tryz.underlying8,Ok,Ok⟩,Ok,⟨Value.agg #[vI,vI,Value.bool false,vU],Ok,Ok,Ok,⟨_,rfl⟩⟩⟩⟩
instance i9:TyI Tryz.prog 9 ⟨.str,1,16,[.lit (Value.string { data:=#[] })]⟩:=⟨⟨Tryz.underlying9,Ok,⟨Value.string { data:=#[] },Ok,Ok,Ok,rfl⟩⟩⟩
instance i10:TyI Tryz.prog 10 ⟨.str,1,16,[.lit (Value.string { data:=#[] })]⟩:=⟨⟨Tryz.underlying10,Ok,⟨Value.string { data:=#[] },Ok,Ok,Ok,rfl⟩⟩⟩
instance i11:TyI Tryz.prog 11 ⟨.str,1,16,[.lit (Value.string { data:=#[] })]⟩:=⟨⟨Tryz.underlying11,Ok,⟨Value.string { data:=#[] },Ok,Ok,Ok,rfl⟩⟩⟩
instance i12:TyI Tryz.prog 12 ⟨.int .u64,1,8,[.lit (Value.int IntKind.u64 0)]⟩:=⟨⟨Tryz.underlying12,Ok,⟨Value.int IntKind.u64 0,Ok,Ok,Ok,rfl⟩⟩⟩
instance i13:TyI Tryz.prog 13 ⟨.struct [(0,1),(1,1)],2,24,[.lit (Value.string { data:=#[] }),.lit (Value.int IntKind.u64 0)]⟩:=⟨⟨⟨_,Tryz.underlying13,Ok,Ok⟩,Ok,⟨Value.agg #[Value.string { data:=#[] },Value.int IntKind.u64 0],Ok,Ok,Ok,⟨_,rfl⟩⟩⟩⟩
instance i14:TyI Tryz.prog 14 ⟨.struct [(0,1),(1,1)],2,24,[.lit (Value.string { data:=#[] }),.lit (Value.int IntKind.u64 0)]⟩:=⟨⟨⟨_,Tryz.underlying14,Ok,Ok⟩,Ok,⟨Value.agg #[Value.string { data:=#[] },Value.int IntKind.u64 0],Ok,Ok,Ok,⟨_,rfl⟩⟩⟩⟩
instance i15:TyI Tryz.prog 15 ⟨.ptr 256,1,8,[.lit (Value.pointer none)]⟩:=⟨⟨Tryz.underlying15,Ok,⟨Value.pointer none,Ok,Ok,Ok,rfl⟩⟩⟩
instance i16:TyI Tryz.prog 16 ⟨.ptr 259,1,8,[.lit (Value.pointer none)]⟩:=⟨⟨Tryz.underlying16,Ok,⟨Value.pointer none,Ok,Ok,Ok,rfl⟩⟩⟩
instance i17:TyI Tryz.prog 17 ⟨.ptr 268,1,8,[.lit (Value.pointer none)]⟩:=⟨⟨Tryz.underlying17,Ok,⟨Value.pointer none,Ok,Ok,Ok,rfl⟩⟩⟩
instance i18:TyI Tryz.prog 18 ⟨.struct [(0,1)],1,8,[.lit (Value.pointer none)]⟩:=⟨⟨⟨_,Tryz.underlying18,Ok,Ok⟩,Ok,⟨Value.agg #[Value.pointer none],Ok,Ok,Ok,⟨_,rfl⟩⟩⟩⟩
instance i19:TyI Tryz.prog 19 ⟨.struct [(0,1)],1,8,[.lit (Value.pointer none)]⟩:=⟨⟨⟨_,Tryz.underlying19,Ok,Ok⟩,Ok,⟨Value.agg #[Value.pointer none],Ok,Ok,Ok,⟨_,rfl⟩⟩⟩⟩
instance i21:TyI Tryz.prog 21 ⟨.int .i32,1,4,[.lit (Value.int IntKind.i32 0)]⟩:=⟨⟨Tryz.underlying21,Ok,⟨Value.int IntKind.i32 0,Ok,Ok,Ok,rfl⟩⟩⟩
instance i22:TyI Tryz.prog 22 ⟨.slice 80,1,24,[.lit (Value.slice none 0 0)]⟩:=⟨⟨Tryz.underlying22,Ok,⟨Value.slice none 0 0,Ok,Ok,Ok,rfl⟩⟩⟩
instance i23:TyI Tryz.prog 23 ⟨.slice 67,1,24,[.lit (Value.slice none 0 0)]⟩:=⟨⟨Tryz.underlying23,Ok,⟨Value.slice none 0 0,Ok,Ok,Ok,rfl⟩⟩⟩
instance i24:TyI Tryz.prog 24 ⟨.struct [(0,1),(1,1),(2,1)],3,56,[.lit (vI),.lit (Value.slice none 0 0),.lit (Value.slice none 0 0)]⟩:=⟨⟨⟨_,Tryz.underlying24,Ok,Ok⟩,Ok,⟨Value.agg #[vI,Value.slice none 0 0,Value.slice none 0 0],Ok,Ok,Ok,⟨_,rfl⟩⟩⟩⟩
instance i25:TyI Tryz.prog 25 ⟨.struct [(0,1),(1,1),(2,1)],3,56,[.lit (vI),.lit (Value.slice none 0 0),.lit (Value.slice none 0 0)]⟩:=⟨⟨⟨_,Tryz.underlying25,Ok,Ok⟩,Ok,⟨Value.agg #[vI,Value.slice none 0 0,Value.slice none 0 0],Ok,Ok,Ok,⟨_,rfl⟩⟩⟩⟩
instance i26:TyI Tryz.prog 26 ⟨.slice 62,1,24,[.lit (Value.slice none 0 0)]⟩:=⟨⟨Tryz.underlying26,Ok,⟨Value.slice none 0 0,Ok,Ok,Ok,rfl⟩⟩⟩
instance i27:TyI Tryz.prog 27 ⟨.slice 69,1,24,[.lit (Value.slice none 0 0)]⟩:=⟨⟨Tryz.underlying27,Ok,⟨Value.slice none 0 0,Ok,Ok,Ok,rfl⟩⟩⟩
instance i28:TyI Tryz.prog 28 ⟨.slice 3,1,24,[.lit (Value.slice none 0 0)]⟩:=⟨⟨Tryz.underlying28,Ok,⟨Value.slice none 0 0,Ok,Ok,Ok,rfl⟩⟩⟩
instance i29:TyI Tryz.prog 29 ⟨.slice 58,1,24,[.lit (Value.slice none 0 0)]⟩:=⟨⟨Tryz.underlying29,Ok,⟨Value.slice none 0 0,Ok,Ok,Ok,rfl⟩⟩⟩
instance i33:TyI Tryz.prog 33 ⟨.slice 152,1,24,[.lit (Value.slice none 0 0)]⟩:=⟨⟨Tryz.underlying33,Ok,⟨Value.slice none 0 0,Ok,Ok,Ok,rfl⟩⟩⟩
instance i34:TyI Tryz.prog 34 ⟨.struct [(0,1),(1,1),(2,1)],3,48,[.lit (Value.string { data:=#[] }),.lit (Value.slice none 0 0),.lit (vI)]⟩:=⟨⟨⟨_,Tryz.underlying34,Ok,Ok⟩,Ok,⟨Value.agg #[Value.string { data:=#[] },Value.slice none 0 0,vI],Ok,Ok,Ok,⟨_,rfl⟩⟩⟩⟩
instance i35:TyI Tryz.prog 35 ⟨.struct [(0,1),(1,1),(2,1)],3,48,[.lit (Value.string { data:=#[] }),.lit (Value.slice none 0 0),.lit (vI)]⟩:=⟨⟨⟨_,Tryz.underlying35,Ok,Ok⟩,Ok,⟨Value.agg #[Value.string { data:=#[] },Value.slice none 0 0,vI],Ok,Ok,Ok,⟨_,rfl⟩⟩⟩⟩
instance i36:TyI Tryz.prog 36 ⟨.slice 27,1,24,[.lit (Value.slice none 0 0)]⟩:=⟨⟨Tryz.underlying36,Ok,⟨Value.slice none 0 0,Ok,Ok,Ok,rfl⟩⟩⟩
instance i37:TyI Tryz.prog 37 ⟨.slice 4,1,24,[.lit (Value.slice none 0 0)]⟩:=⟨⟨Tryz.underlying37,Ok,⟨Value.slice none 0 0,Ok,Ok,Ok,rfl⟩⟩⟩
instance i38:TyI Tryz.prog 38 ⟨.struct [(0,1),(1,1)],2,48,[.lit (Value.slice none 0 0),.lit (Value.slice none 0 0)]⟩:=⟨⟨⟨_,Tryz.underlying38,Ok,Ok⟩,Ok,⟨Value.agg #[Value.slice none 0 0,Value.slice none 0 0],Ok,Ok,Ok,⟨_,rfl⟩⟩⟩⟩
instance i39:TyI Tryz.prog 39 ⟨.struct [(0,1),(1,1)],2,48,[.lit (Value.slice none 0 0),.lit (Value.slice none 0 0)]⟩:=⟨⟨⟨_,Tryz.underlying39,Ok,Ok⟩,Ok,⟨Value.agg #[Value.slice none 0 0,Value.slice none 0 0],Ok,Ok,Ok,⟨_,rfl⟩⟩⟩⟩
instance i40:TyI Tryz.prog 40 ⟨.struct [(0,1),(1,1),(2,1),(3,1),(4,1),(5,1),(6,1),(7,1),(8,1)],9,72,List.replicate 9 (.lit (vI))⟩:=⟨⟨⟨_,Tryz.underlying40,Ok,Ok⟩,Ok,⟨Value.agg #[vI,vI,vI,vI,vI,vI,vI,vI,vI],Ok,Ok,Ok,⟨_,rfl⟩⟩⟩⟩
instance i41:TyI Tryz.prog 41 ⟨.struct [(0,1),(1,1),(2,1),(3,1),(4,1),(5,1),(6,1),(7,1),(8,1)],9,72,List.replicate 9 (.lit (vI))⟩:=⟨⟨⟨_,Tryz.underlying41,Ok,Ok⟩,Ok,⟨Value.agg #[vI,vI,vI,vI,vI,vI,vI,vI,vI],Ok,Ok,Ok,⟨_,rfl⟩⟩⟩⟩
instance i42:TyI Tryz.prog 42 ⟨.struct [(0,3),(3,3),(6,1),(7,1),(8,1),(9,2),(11,1),(12,9),(21,1)],22,296,[.lit (Value.string { data:=#[] }),.lit (Value.slice none 0 0),.lit (vI),.lit (vI),.lit (Value.slice none 0 0),.lit (Value.slice none 0 0),.lit (Value.slice none 0 0),.lit (vI),.lit (Value.slice none 0 0),.lit (Value.slice none 0 0),.lit (Value.slice none 0 0),.lit (vI),.lit (vI),.lit (vI),.lit (vI),.lit (vI),.lit (vI),.lit (vI),.lit (vI),.lit (vI),.lit (vI),.lit (Value.bool false)]⟩:=⟨⟨⟨_,Tryz.underlying42,Ok,Ok⟩,Ok,⟨Value.agg #[Value.string { data:=#[] },Value.slice none 0 0,vI,vI,Value.slice none 0 0,Value.slice none 0 0,Value.slice none 0 0,vI,Value.slice none 0 0,Value.slice none 0 0,Value.slice none 0 0,vI,vI,vI,vI,vI,vI,vI,vI,vI,vI,Value.bool false],Ok,Ok,Ok,⟨_,rfl⟩⟩⟩⟩
instance i43:TyI Tryz.prog 43 ⟨.struct [(0,3),(3,3),(6,1),(7,1),(8,1),(9,2),(11,1),(12,9),(21,1)],22,296,[.lit (Value.string { data:=#[] }),.lit (Value.slice none 0 0),.lit (vI),.lit (vI),.lit (Value.slice none 0 0),.lit (Value.slice none 0 0),.lit (Value.slice none 0 0),.lit (vI),.lit (Value.slice none 0 0),.lit (Value.slice none 0 0),.lit (Value.slice none 0 0),.lit (vI),.lit (vI),.lit (vI),.lit (vI),.lit (vI),.lit (vI),.lit (vI),.lit (vI),.lit (vI),.lit (vI),.lit (Value.bool false)]⟩:=⟨⟨⟨_,Tryz.underlying43,Ok,Ok⟩,Ok,⟨Value.agg #[Value.string { data:=#[] },Value.slice none 0 0,vI,vI,Value.slice none 0 0,Value.slice none 0 0,Value.slice none 0 0,vI,Value.slice none 0 0,Value.slice none 0 0,Value.slice none 0 0,vI,vI,vI,vI,vI,vI,vI,vI,vI,vI,Value.bool false],Ok,Ok,Ok,⟨_,rfl⟩⟩⟩⟩
instance i46:TyI Tryz.prog 46 ⟨.ptr 85,1,8,[.lit (Value.pointer none)]⟩:=⟨⟨Tryz.underlying46,Ok,⟨Value.pointer none,Ok,Ok,Ok,rfl⟩⟩⟩
instance i49:TyI Tryz.prog 49 ⟨.slice 25,1,24,[.lit (Value.slice none 0 0)]⟩:=⟨⟨Tryz.underlying49,Ok,⟨Value.slice none 0 0,Ok,Ok,Ok,rfl⟩⟩⟩
instance i50:TyI Tryz.prog 50 ⟨.slice 26,1,24,[.lit (Value.slice none 0 0)]⟩:=⟨⟨Tryz.underlying50,Ok,⟨Value.slice none 0 0,Ok,Ok,Ok,rfl⟩⟩⟩
instance i51:TyI Tryz.prog 51 ⟨.int .i64,1,8,[.lit (vI)]⟩:=⟨⟨Tryz.underlying51,Ok,⟨vI,Ok,Ok,Ok,rfl⟩⟩⟩
instance i57:TyI Tryz.prog 57 ⟨.struct [(0,1),(1,1)],2,16,[.lit (vI),.lit (vI)]⟩:=⟨⟨⟨_,Tryz.underlying57,Ok,Ok⟩,Ok,⟨Value.agg #[vI,vI],Ok,Ok,Ok,⟨_,rfl⟩⟩⟩⟩
instance i58:TyI Tryz.prog 58 ⟨.struct [(0,1),(1,1)],2,16,[.lit (vI),.lit (vI)]⟩:=⟨⟨⟨_,Tryz.underlying58,Ok,Ok⟩,Ok,⟨Value.agg #[vI,vI],Ok,Ok,Ok,⟨_,rfl⟩⟩⟩⟩
instance i61:TyI Tryz.prog 61 ⟨.struct [(0,1),(1,1),(2,1)],3,40,[.lit (vI),.lit (vI),.lit (Value.slice none 0 0)]⟩:=⟨⟨⟨_,Tryz.underlying61,Ok,Ok⟩,Ok,⟨Value.agg #[vI,vI,Value.slice none 0 0],Ok,Ok,Ok,⟨_,rfl⟩⟩⟩⟩
instance i62:TyI Tryz.prog 62 ⟨.struct [(0,1),(1,1),(2,1)],3,40,[.lit (vI),.lit (vI),.lit (Value.slice none 0 0)]⟩:=⟨⟨⟨_,Tryz.underlying62,Ok,Ok⟩,Ok,⟨Value.agg #[vI,vI,Value.slice none 0 0],Ok,Ok,Ok,⟨_,rfl⟩⟩⟩⟩
instance i66:TyI Tryz.prog 66 ⟨.struct [(0,1),(1,1),(2,1)],3,24,[.lit (vI),.lit (vI),.lit (vI)]⟩:=⟨⟨⟨_,Tryz.underlying66,Ok,Ok⟩,Ok,⟨Value.agg #[vI,vI,vI],Ok,Ok,Ok,⟨_,rfl⟩⟩⟩⟩
instance i67:TyI Tryz.prog 67 ⟨.struct [(0,1),(1,1),(2,1)],3,24,[.lit (vI),.lit (vI),.lit (vI)]⟩:=⟨⟨⟨_,Tryz.underlying67,Ok,Ok⟩,Ok,⟨Value.agg #[vI,vI,vI],Ok,Ok,Ok,⟨_,rfl⟩⟩⟩⟩
instance i68:TyI Tryz.prog 68 ⟨.struct [(0,1),(1,1),(2,1),(3,1),(4,1)],5,40,[.lit (vI),.lit (vI),.lit (vI),.lit (vI),.lit (vI)]⟩:=⟨⟨⟨_,Tryz.underlying68,Ok,Ok⟩,Ok,⟨Value.agg #[vI,vI,vI,vI,vI],Ok,Ok,Ok,⟨_,rfl⟩⟩⟩⟩
instance i69:TyI Tryz.prog 69 ⟨.struct [(0,1),(1,1),(2,1),(3,1),(4,1)],5,40,[.lit (vI),.lit (vI),.lit (vI),.lit (vI),.lit (vI)]⟩:=⟨⟨⟨_,Tryz.underlying69,Ok,Ok⟩,Ok,⟨Value.agg #[vI,vI,vI,vI,vI],Ok,Ok,Ok,⟨_,rfl⟩⟩⟩⟩
instance i70:TyI Tryz.prog 70 ⟨.slice 187,1,24,[.lit (Value.slice none 0 0)]⟩:=⟨⟨Tryz.underlying70,Ok,⟨Value.slice none 0 0,Ok,Ok,Ok,rfl⟩⟩⟩
instance i71:TyI Tryz.prog 71 ⟨.struct [(0,1),(1,1),(2,1)],3,72,[.lit (Value.slice none 0 0),.lit (Value.slice none 0 0),.lit (Value.slice none 0 0)]⟩:=⟨⟨⟨_,Tryz.underlying71,Ok,Ok⟩,Ok,⟨Value.agg #[Value.slice none 0 0,Value.slice none 0 0,Value.slice none 0 0],Ok,Ok,Ok,⟨_,rfl⟩⟩⟩⟩
instance i72:TyI Tryz.prog 72 ⟨.struct [(0,1),(1,1),(2,1)],3,72,[.lit (Value.slice none 0 0),.lit (Value.slice none 0 0),.lit (Value.slice none 0 0)]⟩:=⟨⟨⟨_,Tryz.underlying72,Ok,Ok⟩,Ok,⟨Value.agg #[Value.slice none 0 0,Value.slice none 0 0,Value.slice none 0 0],Ok,Ok,Ok,⟨_,rfl⟩⟩⟩⟩
instance i80:TyI Tryz.prog 80 ⟨.int .u64,1,8,[.lit (Value.int IntKind.u64 0)]⟩:=⟨⟨Tryz.underlying80,Ok,⟨Value.int IntKind.u64 0,Ok,Ok,Ok,rfl⟩⟩⟩
instance i84:TyI Tryz.prog 84 ⟨.struct [(0,1),(1,1)],2,32,[.lit (Value.slice none 0 0),.lit (vI)]⟩:=⟨⟨⟨_,Tryz.underlying84,Ok,Ok⟩,Ok,⟨Value.agg #[Value.slice none 0 0,vI],Ok,Ok,Ok,⟨_,rfl⟩⟩⟩⟩
instance i85:TyI Tryz.prog 85 ⟨.struct [(0,1),(1,1)],2,32,[.lit (Value.slice none 0 0),.lit (vI)]⟩:=⟨⟨⟨_,Tryz.underlying85,Ok,Ok⟩,Ok,⟨Value.agg #[Value.slice none 0 0,vI],Ok,Ok,Ok,⟨_,rfl⟩⟩⟩⟩
instance i89:TyI Tryz.prog 89 ⟨.int .u64,1,8,[.lit (Value.int IntKind.u64 0)]⟩:=⟨⟨Tryz.underlying89,Ok,⟨Value.int IntKind.u64 0,Ok,Ok,Ok,rfl⟩⟩⟩
instance i103:TyI Tryz.prog 103 ⟨.ptr 105,1,8,[.lit (Value.pointer none)]⟩:=⟨⟨Tryz.underlying103,Ok,⟨Value.pointer none,Ok,Ok,Ok,rfl⟩⟩⟩
instance i104:TyI Tryz.prog 104 ⟨.struct [(0,3),(3,1),(4,5),(9,1),(10,1)],11,152,[.lit (vI),.lit (Value.slice none 0 0),.lit (Value.slice none 0 0),.lit (Value.slice none 0 0),.lit (vI),.lit (vI),.lit (vI),.lit (vI),.lit (vI),.lit (Value.slice none 0 0),.lit (vI)]⟩:=⟨⟨⟨_,Tryz.underlying104,Ok,Ok⟩,Ok,⟨Value.agg #[vI,Value.slice none 0 0,Value.slice none 0 0,Value.slice none 0 0,vI,vI,vI,vI,vI,Value.slice none 0 0,vI],Ok,Ok,Ok,⟨_,rfl⟩⟩⟩⟩
instance i105:TyI Tryz.prog 105 ⟨.struct [(0,3),(3,1),(4,5),(9,1),(10,1)],11,152,[.lit (vI),.lit (Value.slice none 0 0),.lit (Value.slice none 0 0),.lit (Value.slice none 0 0),.lit (vI),.lit (vI),.lit (vI),.lit (vI),.lit (vI),.lit (Value.slice none 0 0),.lit (vI)]⟩:=⟨⟨⟨_,Tryz.underlying105,Ok,Ok⟩,Ok,⟨Value.agg #[vI,Value.slice none 0 0,Value.slice none 0 0,Value.slice none 0 0,vI,vI,vI,vI,vI,Value.slice none 0 0,vI],Ok,Ok,Ok,⟨_,rfl⟩⟩⟩⟩
instance i121:TyI Tryz.prog 121 ⟨.struct [(0,3),(3,1),(4,1),(5,1)],6,80,[.lit (vI),.lit (Value.slice none 0 0),.lit (Value.slice none 0 0),.lit (vI),.lit (vI),.lit (vI)]⟩:=⟨⟨⟨_,Tryz.underlying121,Ok,Ok⟩,Ok,⟨Value.agg #[vI,Value.slice none 0 0,Value.slice none 0 0,vI,vI,vI],Ok,Ok,Ok,⟨_,rfl⟩⟩⟩⟩
instance i122:TyI Tryz.prog 122 ⟨.struct [(0,3),(3,1),(4,1),(5,1)],6,80,[.lit (vI),.lit (Value.slice none 0 0),.lit (Value.slice none 0 0),.lit (vI),.lit (vI),.lit (vI)]⟩:=⟨⟨⟨_,Tryz.underlying122,Ok,Ok⟩,Ok,⟨Value.agg #[vI,Value.slice none 0 0,Value.slice none 0 0,vI,vI,vI],Ok,Ok,Ok,⟨_,rfl⟩⟩⟩⟩
instance i125:TyI Tryz.prog 125 ⟨.array 64 3,64,512,List.replicate 64 (.lit (vI))⟩:=⟨⟨Tryz.underlying125,Ok,⟨Value.agg #[vI,vI,vI,vI,vI,vI,vI,vI,vI,vI,vI,vI,vI,vI,vI,vI,vI,vI,vI,vI,vI,vI,vI,vI,vI,vI,vI,vI,vI,vI,vI,vI,vI,vI,vI,vI,vI,vI,vI,vI,vI,vI,vI,vI,vI,vI,vI,vI,vI,vI,vI,vI,vI,vI,vI,vI,vI,vI,vI,vI,vI,vI,vI,vI],Ok,Ok,Ok,⟨_,rfl⟩⟩⟩⟩
instance i137:TyI Tryz.prog 137 ⟨.struct [(0,1),(1,1),(2,1),(3,1)],4,32,[.lit (vI),.lit (vI),.lit (vI),.lit (vI)]⟩:=⟨⟨⟨_,Tryz.underlying137,Ok,Ok⟩,Ok,⟨Value.agg #[vI,vI,vI,vI],Ok,Ok,Ok,⟨_,rfl⟩⟩⟩⟩
instance i138:TyI Tryz.prog 138 ⟨.struct [(0,1),(1,1),(2,1),(3,1)],4,32,[.lit (vI),.lit (vI),.lit (vI),.lit (vI)]⟩:=⟨⟨⟨_,Tryz.underlying138,Ok,Ok⟩,Ok,⟨Value.agg #[vI,vI,vI,vI],Ok,Ok,Ok,⟨_,rfl⟩⟩⟩⟩
instance i140:TyI Tryz.prog 140 ⟨.struct [(0,1),(1,1)],2,16,[.lit (vI),.lit (Value.int IntKind.u64 0)]⟩:=⟨⟨⟨_,Tryz.underlying140,Ok,Ok⟩,Ok,⟨Value.agg #[vI,Value.int IntKind.u64 0],Ok,Ok,Ok,⟨_,rfl⟩⟩⟩⟩
instance i141:TyI Tryz.prog 141 ⟨.struct [(0,1),(1,1)],2,16,[.lit (vI),.lit (Value.int IntKind.u64 0)]⟩:=⟨⟨⟨_,Tryz.underlying141,Ok,Ok⟩,Ok,⟨Value.agg #[vI,Value.int IntKind.u64 0],Ok,Ok,Ok,⟨_,rfl⟩⟩⟩⟩
instance i148:TyI Tryz.prog 148 ⟨.slice 9,1,24,[.lit (Value.slice none 0 0)]⟩:=⟨⟨Tryz.underlying148,Ok,⟨Value.slice none 0 0,Ok,Ok,Ok,rfl⟩⟩⟩
instance i150:TyI Tryz.prog 150 ⟨.flt .f64,1,8,[.lit (Value.float FloatKind.f64 0)]⟩:=⟨⟨Tryz.underlying150,Ok,⟨Value.float FloatKind.f64 0,Ok,Ok,Ok,rfl⟩⟩⟩
instance i151:TyI Tryz.prog 151 ⟨.struct [(0,1),(1,1),(2,1),(3,1)],4,32,[.lit (Value.float FloatKind.f64 0),.lit (vI),.lit (vI),.lit (vI)]⟩:=⟨⟨⟨_,Tryz.underlying151,Ok,Ok⟩,Ok,⟨Value.agg #[Value.float FloatKind.f64 0,vI,vI,vI],Ok,Ok,Ok,⟨_,rfl⟩⟩⟩⟩
instance Qbx:TyI Tryz.prog 152 ⟨.struct [(0,1),(1,1),(2,1),(3,1)],4,32,[.lit (Value.float FloatKind.f64 0),.lit (vI),.lit (vI),.lit (vI)]⟩:=⟨⟨⟨_,Tryz.underlying152,Ok,Ok⟩,Ok,⟨Value.agg #[Value.float FloatKind.f64 0,vI,vI,vI],Ok,Ok,Ok,⟨_,rfl⟩⟩⟩⟩
instance i163:TyI Tryz.prog 163 ⟨.array 64 5,64,64,List.replicate 64 (.lit (vU))⟩:=⟨⟨Tryz.underlying163,Ok,⟨Value.agg #[vU,vU,vU,vU,vU,vU,vU,vU,vU,vU,vU,vU,vU,vU,vU,vU,vU,vU,vU,vU,vU,vU,vU,vU,vU,vU,vU,vU,vU,vU,vU,vU,vU,vU,vU,vU,vU,vU,vU,vU,vU,vU,vU,vU,vU,vU,vU,vU,vU,vU,vU,vU,vU,vU,vU,vU,vU,vU,vU,vU,vU,vU,vU,vU],Ok,Ok,Ok,⟨_,rfl⟩⟩⟩⟩
instance i186:TyI Tryz.prog 186 ⟨.struct [(0,1),(1,1)],2,48,[.lit (Value.slice none 0 0),.lit (Value.slice none 0 0)]⟩:=⟨⟨⟨_,Tryz.underlying186,Ok,Ok⟩,Ok,⟨Value.agg #[Value.slice none 0 0,Value.slice none 0 0],Ok,Ok,Ok,⟨_,rfl⟩⟩⟩⟩
instance i187:TyI Tryz.prog 187 ⟨.struct [(0,1),(1,1)],2,48,[.lit (Value.slice none 0 0),.lit (Value.slice none 0 0)]⟩:=⟨⟨⟨_,Tryz.underlying187,Ok,Ok⟩,Ok,⟨Value.agg #[Value.slice none 0 0,Value.slice none 0 0],Ok,Ok,Ok,⟨_,rfl⟩⟩⟩⟩
instance i192:TyI Tryz.prog 192 ⟨.slice 150,1,24,[.lit (Value.slice none 0 0)]⟩:=⟨⟨Tryz.underlying192,Ok,⟨Value.slice none 0 0,Ok,Ok,Ok,rfl⟩⟩⟩
instance i200:TyI Tryz.prog 200 ⟨.array 4 4,4,4,[.lit (Value.bool false),.lit (Value.bool false),.lit (Value.bool false),.lit (Value.bool false)]⟩:=⟨⟨Tryz.underlying200,Ok,⟨Value.agg #[Value.bool false,Value.bool false,Value.bool false,Value.bool false],Ok,Ok,Ok,⟨_,rfl⟩⟩⟩⟩
instance i237:TyI Tryz.prog 237 ⟨.struct [(0,1),(1,1),(2,1)],3,24,[.lit (vI),.lit (Value.bool false),.lit (vI)]⟩:=⟨⟨⟨_,Tryz.underlying237,Ok,Ok⟩,Ok,⟨Value.agg #[vI,Value.bool false,vI],Ok,Ok,Ok,⟨_,rfl⟩⟩⟩⟩
instance i238:TyI Tryz.prog 238 ⟨.struct [(0,1),(1,1),(2,1)],3,24,[.lit (vI),.lit (Value.bool false),.lit (vI)]⟩:=⟨⟨⟨_,Tryz.underlying238,Ok,Ok⟩,Ok,⟨Value.agg #[vI,Value.bool false,vI],Ok,Ok,Ok,⟨_,rfl⟩⟩⟩⟩
instance i242:TyI Tryz.prog 242 ⟨.struct [(0,1),(1,1),(2,1),(3,1)],4,32,[.lit (vI),.lit (vI),.lit (vI),.lit (vI)]⟩:=⟨⟨⟨_,Tryz.underlying242,Ok,Ok⟩,Ok,⟨Value.agg #[vI,vI,vI,vI],Ok,Ok,Ok,⟨_,rfl⟩⟩⟩⟩
instance i243:TyI Tryz.prog 243 ⟨.struct [(0,1),(1,1),(2,1),(3,1)],4,32,[.lit (vI),.lit (vI),.lit (vI),.lit (vI)]⟩:=⟨⟨⟨_,Tryz.underlying243,Ok,Ok⟩,Ok,⟨Value.agg #[vI,vI,vI,vI],Ok,Ok,Ok,⟨_,rfl⟩⟩⟩⟩
instance i255:TyI Tryz.prog 255 ⟨.struct [(0,1),(1,1),(2,1),(3,1)],4,40,[.lit (Value.pointer none),.lit (Value.pointer none),.lit (Value.pointer none),.lit (Value.string { data:=#[] })]⟩:=⟨⟨⟨_,Tryz.underlying255,Ok,Ok⟩,Ok,⟨Value.agg #[Value.pointer none,Value.pointer none,Value.pointer none,Value.string { data:=#[] }],Ok,Ok,Ok,⟨_,rfl⟩⟩⟩⟩
instance i256:TyI Tryz.prog 256 ⟨.struct [(0,1),(1,1),(2,1),(3,1)],4,40,[.lit (Value.pointer none),.lit (Value.pointer none),.lit (Value.pointer none),.lit (Value.string { data:=#[] })]⟩:=⟨⟨⟨_,Tryz.underlying256,Ok,Ok⟩,Ok,⟨Value.agg #[Value.pointer none,Value.pointer none,Value.pointer none,Value.string { data:=#[] }],Ok,Ok,Ok,⟨_,rfl⟩⟩⟩⟩
instance i257:TyI Tryz.prog 257 ⟨.array 0 16,0,0,[]⟩:=⟨⟨Tryz.underlying257,Ok,⟨Value.agg #[],Ok,Ok,Ok,⟨_,rfl⟩⟩⟩⟩
instance i258:TyI Tryz.prog 258 ⟨.struct [(0,0)],0,0,[]⟩:=⟨⟨⟨_,Tryz.underlying258,Ok,Ok⟩,Ok,⟨Value.agg #[],Ok,Ok,Ok,⟨_,rfl⟩⟩⟩⟩
instance i259:TyI Tryz.prog 259 ⟨.struct [(0,0)],0,0,[]⟩:=⟨⟨⟨_,Tryz.underlying259,Ok,Ok⟩,Ok,⟨Value.agg #[],Ok,Ok,Ok,⟨_,rfl⟩⟩⟩⟩
instance i260:TyI Tryz.prog 260 ⟨.int .u32,1,4,[.lit (Value.int IntKind.u32 0)]⟩:=⟨⟨Tryz.underlying260,Ok,⟨Value.int IntKind.u32 0,Ok,Ok,Ok,rfl⟩⟩⟩
instance i261:TyI Tryz.prog 261 ⟨.int .u8,1,1,[.lit (vU)]⟩:=⟨⟨Tryz.underlying261,Ok,⟨vU,Ok,Ok,Ok,rfl⟩⟩⟩
instance i262:TyI Tryz.prog 262 ⟨.int .u8,1,1,[.lit (vU)]⟩:=⟨⟨Tryz.underlying262,Ok,⟨vU,Ok,Ok,Ok,rfl⟩⟩⟩
instance i264:TyI Tryz.prog 264 ⟨.ptr 5,1,8,[.lit (Value.pointer none)]⟩:=⟨⟨Tryz.underlying264,Ok,⟨Value.pointer none,Ok,Ok,Ok,rfl⟩⟩⟩
instance i265:TyI Tryz.prog 265 ⟨.int .i32,1,4,[.lit (Value.int IntKind.i32 0)]⟩:=⟨⟨Tryz.underlying265,Ok,⟨Value.int IntKind.i32 0,Ok,Ok,Ok,rfl⟩⟩⟩
instance i266:TyI Tryz.prog 266 ⟨.int .i32,1,4,[.lit (Value.int IntKind.i32 0)]⟩:=⟨⟨Tryz.underlying266,Ok,⟨Value.int IntKind.i32 0,Ok,Ok,Ok,rfl⟩⟩⟩
instance i267:TyI Tryz.prog 267 ⟨.struct [(0,1),(1,1),(2,1),(3,1),(4,1),(5,1),(6,1),(7,1),(8,1),(9,1),(10,1)],11,48,[.lit (Value.int IntKind.u64 0),.lit (Value.int IntKind.u64 0),.lit (Value.int IntKind.u32 0),.lit (vU),.lit (vU),.lit (vU),.lit (vU),.lit (Value.nilFunc),.lit (Value.pointer none),.lit (Value.int IntKind.i32 0),.lit (Value.int IntKind.i32 0)]⟩:=⟨⟨⟨_,Tryz.underlying267,Ok,Ok⟩,Ok,⟨Value.agg #[Value.int IntKind.u64 0,Value.int IntKind.u64 0,Value.int IntKind.u32 0,vU,vU,vU,vU,Value.nilFunc,Value.pointer none,Value.int IntKind.i32 0,Value.int IntKind.i32 0],Ok,Ok,Ok,⟨_,rfl⟩⟩⟩⟩
instance i268:TyI Tryz.prog 268 ⟨.struct [(0,1),(1,1),(2,1),(3,1),(4,1),(5,1),(6,1),(7,1),(8,1),(9,1),(10,1)],11,48,[.lit (Value.int IntKind.u64 0),.lit (Value.int IntKind.u64 0),.lit (Value.int IntKind.u32 0),.lit (vU),.lit (vU),.lit (vU),.lit (vU),.lit (Value.nilFunc),.lit (Value.pointer none),.lit (Value.int IntKind.i32 0),.lit (Value.int IntKind.i32 0)]⟩:=⟨⟨⟨_,Tryz.underlying268,Ok,Ok⟩,Ok,⟨Value.agg #[Value.int IntKind.u64 0,Value.int IntKind.u64 0,Value.int IntKind.u32 0,vU,vU,vU,vU,Value.nilFunc,Value.pointer none,Value.int IntKind.i32 0,Value.int IntKind.i32 0],Ok,Ok,Ok,⟨_,rfl⟩⟩⟩⟩
theorem mixedP:Tryz.prog.follows .mixedOrders=true:=by kernel_rfl
instance:MixP Tryz.prog:=⟨mixedP⟩
section
variable{P:Program}{env:Env}{sto:Sto}{nxt:Nat}{o:Oper}
theorem zeroCells_get{cs:Array Value}{n j:Nat}(a:j<n*cs.size):(Builtin.zeroCells cs n)[j]?=cs[j%cs.size]?:=by
 have b:0<cs.size:=by
  rcases V5 cs.size with h | h
  ·rw[h,Nat.mul_zero]at a;omega
  ·exact h
 have:j%cs.size<cs.size:=UJ _ b;simp[Builtin.zeroCells,a,this]
theorem QgW{t e:Nat}{x:Operand}{a:Act}{w:World}{v:Value}(c:o.op = .call ⟨.builtin .clear,#[x],#[t]⟩)(f:P.underlying t=some (.slice e))(d:a.eval x=v){b:World}
  (h:(Builtin.clear_ #[t] o.type #[v]).run P w = .ok (.tuple #[]) b):(execOp a.eval o).run P w = .ok (.value (.tuple #[])) b:=by simp[execOp,c,resolve,invoke,builtin,d,h]
theorem r_clear{t e:Nat}{x:Operand}{tt b:TyD}{s off len:Nat}{f:List (List DV)}(ho:o.op = .call ⟨.builtin .clear,#[x],#[t]⟩)(ht:QB P t tt)(hk:tt.k = .slice e)(he:QB P e b)(hx:opd env x = .own s off len)(hs:sto.get s=some ⟨b.size,true,false,f⟩)
  (hl:off+len<=f.length)(hz:b.zero.length=b.size)(h0:0<b.size) :
  Qv P o env sto nxt ⟨.tup [],[(s,some ⟨b.size,true,false,f.take off++List.replicate len (b.zero.map QdK)++f.drop (off+len)⟩)],[s],0⟩:=.ran λF m a hI hE hH hF=>by
 have h1:=hE x (by simp[ho,Op.operands,Call.operands])
 rw[hx]at h1
 have H:=hH s Os _ hs
 obtain ⟨en,k1,k2,k3,X⟩:=Jm h1 H
 obtain ⟨i,z,z1,z2,z3,z4,z5,z6,_⟩:=QbM he
 have K:=ht.kind
 rw[hk]at K
 have E:z.cells.size=b.size:=by rw[<- hz,<- z5];simp
 by_cases hn:len=0
 ·subst hn
  have B:∃ ad c,a.eval x = .slice ad 0 c:=by
   rcases X with ⟨g,l,_,B,_⟩ | ⟨_,B,_⟩
   ·exact ⟨_,_,B⟩
   ·exact ⟨_,_,B⟩
  obtain ⟨ad,c,B⟩:=B
  refine ⟨.tuple #[],m,.inl (QgW ho K B ?_),hI,Loc.refl _ _,.tup rfl (λi v d B=>by simp at B),λp hp=>?_⟩
  ·cases ad <;> simp[Builtin.clear_,run_underlying K]
  ·obtain rfl:p=(s,some ⟨b.size,true,false,f.take off++List.replicate 0 (b.zero.map QdK)++f.drop (off+0)⟩):=by simpa using hp
   rw[List.replicate_zero,W6,Vz,Vn]
   exact H
 ·obtain ⟨g,l,kb,B,k5,k6⟩:∃ g l,en.blk=some (g,l)/\a.eval x = .slice (some ⟨g,off*b.size,none⟩) len (l-off)/\off+len<=l/\Row m ⟨b.size,true,false,f⟩ g l:=by
   rcases X with X | ⟨_,_,_,h,_⟩
   ·exact X
   ·exact absurd h hn
  obtain ⟨D,T,c1,V,c3⟩:=k6.cells
  have V:D.size=l*b.size:=V
  have Y:f.length<=l:=k6.len
  have aa:(off+len)*b.size<=D.size:=by rw[V];exact Wy _ Oo
  have Z:off*b.size+len*b.size<=D.size:=by rwa [<- Vk]
  have C:(Builtin.zeroCells z.cells len).size=len*b.size:=by rw[Zh,E]
  have L:=run_storeCells_cells (P:=P) g (off*b.size) (Builtin.zeroCells z.cells len).toList 0 m.w (by
   intro j S
   rw[Wt,C]at S
   rw[Qau c1,Vz,VW Oo];rfl) (by
   intro j S
   exact XO c1) (by
   intro v B
   simp only[Builtin.zeroCells,Array.toList_map,Array.toList_range,Wm,WE]at B
   obtain ⟨i,hi,rfl⟩:=B
   have hi:i%z.cells.size<z.cells.size:=UJ _ (by rw[E];exact h0)
   rw[getElem!_pos z.cells _ hi]
   exact z6 _ (Array.getElem_mem hi))
  simp only[Vz]at L
  obtain ⟨n1,rfl⟩:∃ n1,len=n1+1:=⟨len-1,Oo⟩
  have M:(Builtin.clear_ #[t] o.type #[.slice (some ⟨g,off*b.size,none⟩) (n1+1) (l-off)]).run P m.w = .ok (.tuple #[]) (m.w.setCells g (off*b.size) (Builtin.zeroCells z.cells (n1+1)).toList):=by simp[Builtin.clear_,run_underlying K,zeroValue,typeInfo,z1,z4,L]
  have N:=Qr g (Builtin.zeroCells z.cells (n1+1)).toList (off*b.size) m.w
  obtain ⟨w,d1,d2⟩:=Zj (Builtin.zeroCells z.cells (n1+1)).toList (off*b.size) m.w D c1 (by rw[Wt,C];omega)
  have hT:=turn_at hI k1 (m.w.setCells g (off*b.size) (Builtin.zeroCells z.cells (n1+1)).toList) true (λ_=>by rw[k3];rfl) N.os N.tape N.output N.size (λk hk h=>N.block k hk λe=>by
   injection e with e
   subst e
   have:=h _ kb
   rw[k3]at this
   cases this)
  refine ⟨.tuple #[],_,.inl (QgW ho K B M),hT.1,hT.2,.tup rfl (λi v d B=>by simp at B),λp hp=>?_⟩
  obtain rfl:p=(s,some ⟨b.size,true,false,f.take off++List.replicate (n1+1) (b.zero.map QdK)++f.drop (off+(n1+1))⟩):=by simpa using hp
  have O:(f.take off++List.replicate (n1+1) (b.zero.map QdK)++f.drop (off+(n1+1))).length=f.length:=by rw[We,We,Wf,W2,Wv];omega
  have G:∀ (i:Nat) y,(f.take off++List.replicate (n1+1) (b.zero.map QdK)++f.drop (off+(n1+1)))[i]?=some y->(off<=i/\i<off+(n1+1)/\y=b.zero.map QdK)\/((i<off\/off+(n1+1)<=i)/\f[i]?=some y):=λi y A=>by
   by_cases h2:i<off
   ·rw[WI,WF (by rw[Wf];omega),WM,if_pos h2]at A;exact .inr ⟨.inl h2,A⟩
   ·by_cases h3:i<off+(n1+1)
    ·rw[WF (by rw[We,Wf,W2];omega),WC (by rw[Wf];omega),V8,if_pos (by rw[Wf];omega)]at A;injection A with A;exact .inl ⟨Oo,h3,A.symm⟩
    ·rw[WC (by rw[We,Wf,W2];omega),WW,We,Wf,W2,show off+(n1+1)+(i-(min off f.length+(n1+1)))=i by omega]at A;exact .inr ⟨.inr Oo,A⟩
  have Q:(b.zero.map QdK).length=b.size:=by rw[Wb];exact hz
  have R:Row ⟨m.w.setCells g (off*b.size) (Builtin.zeroCells z.cells (n1+1)).toList,m.M,Z3 m.σ s (some { en with mu:=true })⟩ ⟨b.size,true,false,f.take off++List.replicate (n1+1) (b.zero.map QdK)++f.drop (off+(n1+1))⟩ g l:=by
   have I:∀ (i:Nat) y,(f.take off++List.replicate (n1+1) (b.zero.map QdK)++f.drop (off+(n1+1)))[i]?=some y->y.length=b.size:=λi y A=>by
    rcases G i y A with ⟨_,_,rfl⟩ | ⟨_,A⟩
    ·exact Q
    ·exact k6.sz i y A
   refine ⟨⟨w,T,d1,?_,λi y j d A J=>?_⟩,by show List.length _<=l;rw[O];exact Y,k6.max,h0,I⟩
   ·show w.size=l*b.size;rw[<- Wt,d2,We,We,Wf,Wv,Wt,Wt,C,<- V];omega
   ·have S:j<b.size:=by
     have:=I i y A;rcases Ws j y.length with h' | h'
     ·omega
     ·rw[Wi h']at J;cases J
    show ∃ u,w[i*b.size+j]?=some u/\_;have ec:w[i*b.size+j]?=w.toList[i*b.size+j]?:=by simp
    rw[ec,d2];rcases G i y A with ⟨h2,h3,rfl⟩ | ⟨h2,A⟩
    ·have W:off*b.size<=i*b.size:=Wy _ h2;have e2:=Wy b.size (show i+1<=off+(n1+1) by omega);rw[Vk,Vk,UH]at e2;have e3:i*b.size+j-off*b.size=(i-off)*b.size+j:=by obtain ⟨q,rfl⟩:∃ q,i=off+q:=⟨i-off,Oo⟩;rw[Vk,V9];omega
     have e4:(i-off)*b.size+j<(n1+1)*b.size:=by omega
     rw[WF (by rw[We,Wf,Wt,Wt,C];omega),WC (by rw[Wf,Wt];omega),Wf,Wt,W5 Oo,e3];have e5:((i-off)*b.size+j)%z.cells.size=j:=by rw[E,VG,Nat.mul_add_mod,VE S]
     have e6:(Builtin.zeroCells z.cells (n1+1)).toList[(i-off)*b.size+j]?=z.cells[j]?:=by have:=zeroCells_get (cs:=z.cells) (n:=n1+1) (j:=(i-off)*b.size+j) (by rw[E];exact e4);rw[e5]at this;simpa using this
     rw[e6];obtain ⟨u,r⟩:∃ u,z.cells[j]?=some u:=⟨_,VW (by rw[E];exact S)⟩;refine ⟨u,r,z6 u (Ym r),?_⟩;rw[Wh]at J;have e7:b.zero[j]?=some (.lit u):=by
      rw[<- z5,Wh];have:z.cells.toList[j]?=some u:=by simpa using r
      rw[this];rfl
     rw[e7]at J;injection J with J;subst J;show PRep _ _ u (QdK (.lit u));unfold QdK;split
     ·rename_i h;injection h with h;subst h;exact .nil _ _ (WO _)
     ·exact .lit u (z6 u (Ym r))
    ·obtain ⟨u,r,hr⟩:=c3 i y j d A J;have r:D[i*b.size+j]?=some u:=r;refine ⟨u,?_,hr.ext hT.2.toExt⟩;have U:D.toList[i*b.size+j]?=some u:=by simpa using r
     rcases h2 with h2 | h2
     ·have W:=Wy b.size (show i+1<=off by omega);rw[Vk,UH]at W;rw[WI,WF (by rw[Wf,Wt];omega),WM,if_pos Oo];exact U
     ·have W:=Wy b.size h2;rw[Vk]at W;rw[WC (by rw[We,Wf,Wt,Wt,C];omega),WW,We,Wf,Wt,Wt,C,W5 Oo];rw[show off*b.size+(n1+1)*b.size+(i*b.size+j-(off*b.size+(n1+1)*b.size))=i*b.size+j by omega];exact U
  exact QH.of (e:={ en with mu:=true }) (Qh _ _ _) k2 rfl kb R (R.deep rfl _)
variable{α:Type}{c:α->List DV}{xs:List α}{z0:α}
theorem m_clrV{t e s k:Nat}{x:Operand}{d b:TyD}{a:Int}(h:0<=a/\a<=xs.length)(j:QB P t d)(i:QB P e b)(g:o.op = .call ⟨.builtin .clear,#[x],#[t]⟩:=by rfl)(f:d.k = .slice e:=by rfl)(p:opd env x = .own s a.toNat (Int.toNat (xs.length:Int)-a.toNat):=by rfl)
  (m:sto.get s=some ⟨b.size,true,false,xs.map c⟩:=by rfl)(q:b.zero.length=b.size:=by rfl)(l:0<b.size:=by decide)(n:b.zero.map QdK=c z0:=by rfl) :
  Qv P o env sto nxt ⟨.tup [],[(s,some ⟨b.size,true,false,(xs.take a.toNat++List.replicate (xs.length-a.toNat) z0).map c⟩)],[s],0⟩:=by have:=r_clear (P:=P) (nxt:=nxt) g j f i p m (by rw[Wb];omega) q l;rw[n,<- UK,<- US,Vx (by rw[Wb];omega),W6,<- WP,Wd]at this;exact this
theorem m_clrN{t e s:Nat}{x:Operand}{l f:TyD}{a:Int}(z:a=(xs.length:Int))(B:QB P t l)(G:QB P e f)(k:o.op = .call ⟨.builtin .clear,#[x],#[t]⟩:=by rfl)(A:l.k = .slice e:=by rfl)(D:opd env x = .sl (((xs.take (Int.toNat (xs.length:Int))).drop a.toNat).map c):=by rfl)
  (C:sto.get s=some ⟨f.size,true,false,xs.map c⟩:=by rfl) :
  Qv P o env sto nxt ⟨.tup [],[(s,some ⟨f.size,true,false,(xs.take a.toNat++List.replicate (xs.length-a.toNat) z0).map c⟩)],[s],0⟩:=.ran λF m q r u w E=>by
 subst z
 have h:=u x (by simp[k,Op.operands,Call.operands])
 rw[D,Wd,WQ,List.drop_length]at h
 have H:=w s Os _ C
 have g:=B.kind
 rw[A]at g
 obtain ⟨j,n,b,_⟩:=h.sl_inv.sl_inv
 have b:q.eval x = .slice j 0 n:=b
 refine ⟨.tuple #[],m,.inl (QgW k g b ?_),r,Loc.refl _ _,.tup rfl (λi v d b=>by simp at b),λp y=>?_⟩
 ·cases j <;> simp[Builtin.clear_,run_underlying g]
 ·obtain rfl:p=(s,some ⟨f.size,true,false,(xs.take (Int.toNat (xs.length:Int))++List.replicate (xs.length-Int.toNat (xs.length:Int)) z0).map c⟩):=by simpa using y
  rw[Wd,WQ,V1,List.replicate_zero,W6]
  exact H
end
theorem QH.cut{m:Mem}{s z:Nat}{a:List (List DV)}(n:Nat)(h:QH m s ⟨z,true,false,a⟩):QH m s ⟨z,true,false,a.take n⟩:=by
 obtain ⟨e,t,u,v,l⟩:=h;refine ⟨e,t,u,v,?_⟩;cases hb:e.blk with
 | none =>
  rw[hb]at l;exact ⟨by
   have q:a=[]:=l.1
   show a.take n=[]
   rw[q];simp,l.2⟩
 | some p =>
  obtain ⟨g,c⟩:=p;rw[hb]at l;have r:=l.1;have f:∀ (i:Nat) x,(a.take n)[i]?=some x->a[i]?=some x:=λi x b=>by
   rw[WM]at b;split at b
   ·exact b
   ·cases b
  have k:Row m ⟨z,true,false,a.take n⟩ g c:=by obtain ⟨o,T,w,y,A⟩:=r.cells;exact ⟨⟨o,T,w,y,λi x j d b B=>A i x j d (f i x b) B⟩,by have:a.length<=c:=r.len;show (a.take n).length<=c;rw[Wf];omega,r.max,r.pos,λi x b=>r.sz i x (f i x b)⟩
  exact ⟨k,k.deep rfl _⟩
theorem ZB.cut{α:Type}{c:α->List DV}{l:List α}{n0:Nat}{env:Env}{sto:Sto}{nxt s z:Nat}(n:Nat)(a:sto.get s=some ⟨z,true,false,l.map c⟩):ZB n0 ⟨env,sto,nxt⟩ ⟨env,(s,⟨z,true,false,(l.take n).map c⟩) :: sto,nxt⟩:=by have:=ZB.tell (n0:=n0) (env:=env) (nxt:=nxt) a λm h=>QH.cut n h;rwa [<- UK]at this
theorem ins_get{C vs:List Value}{z i j q:Nat}(k:i*z<=C.length)(h:vs.length=z)(l:q<z) :
  (C.take (i*z)++vs++C.drop (i*z))[j*z+q]?=if j<i then C[j*z+q]? else if j=i then vs[q]? else C[(j-1)*z+q]?:=by
 have a:(C.take (i*z)).length=i*z:=by rw[Wf];omega
 by_cases b:j<i
 ·have e:j*z+z<=i*z:=by have:=Wy z (show j+1<=i by omega);rwa [Vm]at this
  rw[if_pos b,WI,WF Oo,WM,if_pos Oo]
 ·rw[if_neg b];by_cases c:j=i
  ·subst c;rw[if_pos rfl,WF (by rw[We];omega),WC Oo,a,V9]
  ·rw[if_neg c];obtain ⟨d,rfl⟩:∃ d,j=i+1+d:=⟨j-i-1,Oo⟩;have f:(i+1+d)*z=i*z+z+d*z:=by rw[Vk,Vk,UH]
   have g:(i+1+d-1)*z=i*z+d*z:=by rw[show i+1+d-1=i+d by omega,Vk]
   rw[WC (by rw[We];omega),WW,We,a,h,f,g];congr 1;omega
def InsRaw(P:Program)(f z B:Nat):Prop:=∀ {w:World} {n i:Nat} {v vv:Value} {g0:Option (Nat×Nat)} {C vs:List Value} (hs:(∃ g cap cur T,g0=some (g,cap)/\v = .slice (some ⟨g,0,none⟩) n cap/\n<=cap/\cap<=maxLen/\w.heap[g]?=some (.cells cur T (0,0))/\cur.size=cap*z/\C=cur.toList.take (n*z))\/(g0=none/\v = .slice none 0 0/\n=0/\C=[])) (hv:∃ vb vc cv Tv,vv = .slice (some ⟨vb,0,none⟩) 1 vc/\w.heap[vb]?=some (.cells cv Tv (0,0))/\cv.size=vc*z/\1<=vc/\vs=cv.toList.take z/\∀ c,g0≠some (vb,c)) (h1c:∀ u∈C,u.oneCell'=true) (h1v:∀ u∈vs,u.oneCell'=true) (hi:i<=n) (hb:(n+1)*B<=140737488355328), Calls P f #[v,.int .i64 i,vv] w λe a=>∃ g' cap' cur' T',e = .returned (.slice (some ⟨g',0,none⟩) (n+1) cap')/\a.os=w.os/\a.tape=w.tape/\a.output=w.output/\w.heap.size<=a.heap.size /\ (∀ j,j<w.heap.size->(∀ c,g0≠some (j,c))->a.heap[j]?=w.heap[j]?)/\((∃ c',g0=some (g',c'))\/(w.heap.size<=g'/\g' < a.heap.size))/\n+1<=cap'/\cap'<=maxLen/\a.heap[g']?=some (.cells cur' T' (0,0))/\cur'.size=cap' * z/\cur'.toList.take ((n+1)*z)=C.take (i*z)++vs++C.drop (i*z)
theorem row_cells{m:Mem}{z g cap:Nat}{f:Bool}{xs:List (List DV)}(r:Row m ⟨z,true,f,xs⟩ g cap):∃ cur T C,m.w.heap[g]?=some (.cells cur T (0,0))/\cur.size=cap*z/\C=cur.toList.take (xs.length*z)/\C.length=xs.length*z /\
  (∀ (i:Nat) x (j:Nat) d,xs[i]?=some x->x[j]?=some d->∃ u,C[i*z+j]?=some u/\Qhl m true u d)/\∀ u∈C,u.oneCell'=true:=by
 obtain ⟨cur,T,w,k,y⟩:=r.cells;have s:0<z:=r.pos;have t:xs.length*z<=cap*z:=Wy z (show xs.length<=cap from r.len);have k:cur.size=cap*z:=k;have c:∀ (i:Nat) x,xs[i]?=some x->x.length=z:=r.sz;have e:∀ (i:Nat) x (j:Nat) d,xs[i]?=some x->x[j]?=some d->∃ u,(cur.toList.take (xs.length*z))[i*z+j]?=some u/\Qhl m true u d:=λi x j d b h=>by
  obtain ⟨u,o,n⟩:=y i x j d b h;have B:j<z:=by
   have:=c i x b;rcases Ws j x.length with h' | h'
   ·omega
   ·rw[Wi h']at h;cases h
  have D:i<xs.length:=by
   rcases Ws i xs.length with h' | h'
   ·exact h'
   ·rw[Wi h']at b;cases b
  have:=Wy z (show i+1<=xs.length by omega);rw[Vm]at this;exact ⟨u,by rw[WM,if_pos Oo];simpa using o,n⟩
 refine ⟨cur,T,_,w,k,rfl,by rw[Wf,show cur.toList.length=cap*z by simpa using k];omega,e,λu o=>?_⟩;obtain ⟨p,q⟩:=W8.1 o;have l:p<xs.length*z:=by
  rcases Ws p (xs.length*z) with h' | h'
  ·exact h'
  ·rw[WM,if_neg Oo]at q;cases q
 have v:p/z<xs.length:=by refine (VT s).2 l
 have n:p%z<z:=UJ _ s;obtain ⟨x,b⟩:∃ x,xs[p/z]?=some x:=⟨_,Wa v⟩;obtain ⟨d,h⟩:∃ d,x[p%z]?=some d:=⟨_,Wa (by rw[c _ _ b];exact n)⟩;obtain ⟨E,a,A,_⟩:=e _ x _ d b h;rw[show p/z*z+p%z=p by rw[VG];exact UV p z,q]at a;injection a with a;rw[a];exact A
theorem ins_dcall {α:Type} {c:α->List DV} {P:Program} {f z B:Nat} (S:InsRaw P f z B) {U:Func} {cd:Code} (hf:P.funcs[f]?=some U) (H:(U.name == "runtime.NumGoroutine")=false) (hb:U.body=some cd) (hc:∀ a,(c a).length=z)
  (xs:List α) (x:α) (i:Int) (h:0<=i/\i<=xs.length/\((xs.length:Int)+1)*B<=140737488355328) :
  DCall P f [.own 0 0 xs.length,DI i,.own 1 0 1] [(0,⟨z,true,false,xs.map c⟩),(1,⟨z,true,false,[x].map c⟩)] (.own 2 0 (xs.insertIdx i.toNat x).length) [(2,⟨z,true,false,(xs.insertIdx i.toNat x).map c⟩)]:=by
 obtain ⟨K,h2,h3⟩:=h;refine ⟨λad w=>by
  have hn:¬ U.name= "runtime.NumGoroutine":=by simpa using H
  simp[callFunc,hf,hn,hb],λw M σ vs hI hS hσ Q=>?_⟩
 have H0:=hS 0 ⟨z,true,false,xs.map c⟩ rfl;have H1:=hS 1 ⟨z,true,false,[x].map c⟩ rfl;match vs,Q with
 | [a0,a1,a2],Q =>
 have r0:Rep ⟨w,M,σ⟩ a0 (.own 0 0 xs.length):=Q.2 0 a0 _ rfl rfl;have r1:Rep ⟨w,M,σ⟩ a1 (DI i):=Q.2 1 a1 _ rfl rfl;have r2:Rep ⟨w,M,σ⟩ a2 (.own 1 0 1):=Q.2 2 a2 _ rfl rfl;obtain ⟨L,k1,k2,k3,N⟩:=Jm r0 H0;obtain ⟨e1,q1,q2,q3,q4⟩:=Jm r2 H1;have hi:=r1.lit_inv;subst hi;obtain ⟨vb,vc,p1,p2,p3,p4⟩:∃ g b,e1.blk=some (g,b)/\a2 = .slice (some ⟨g,0,none⟩) 1 b/\1<=b/\Row ⟨w,M,σ⟩ ⟨z,true,false,[x].map c⟩ g b:=by
  rcases q4 with ⟨g,b,q4,m,q5,q6⟩ | ⟨_,_,_,h,_⟩
  ·rw[UD,UR]at m;exact ⟨g,b,q4,m,Oo,q6⟩
  ·cases h
 obtain ⟨cv,Tv,V,v1,v2,v3,v4,v5,v6⟩:=row_cells p4;have W:0<z:=p4.pos;have X:V=cv.toList.take z:=by rw[v3];simp
 have Y:V.length=z:=by rw[v4];simp
 obtain ⟨C,hC,hCl,hCr,hC1⟩:∃ C,((∃ g b A T,L.blk=some (g,b)/\a0 = .slice (some ⟨g,0,none⟩) xs.length b/\xs.length<=b/\b<=maxLen/\w.heap[g]?=some (.cells A T (0,0))/\A.size=b*z/\C=A.toList.take (xs.length*z))\/(L.blk=none/\a0 = .slice none 0 0/\xs.length=0/\C=[]))/\C.length=xs.length*z /\
   (∀ (i:Nat) y (j:Nat) d,(xs.map c)[i]?=some y->y[j]?=some d->∃ u,C[i*z+j]?=some u/\Qhl ⟨w,M,σ⟩ true u d)/\∀ u∈C,u.oneCell'=true:=by
  rcases N with ⟨g,b,N,m,k5,k6⟩ | ⟨N,m,_,h,he,_⟩
  ·rw[UD,UR]at m
   obtain ⟨A,T,C,c1,c2,c3,c4,c5,c6⟩:=row_cells k6
   rw[Wb]at c3 c4
   exact ⟨C,.inl ⟨g,b,A,T,N,m,Oo,k6.max,c1,c2,c3⟩,c4,c5,c6⟩
  ·refine ⟨[],.inr ⟨N,m,h,rfl⟩,by simp[h],λi y j d l=>?_,λu F=>by cases F⟩
   rw[show xs.map c=[] from he]at l
   simp at l
 have Z:∀ c',L.blk≠some (vb,c'):=λc' ac=>by have:=hI.inj 0 1 L e1 vb k1 q1 (Ent.has_blk ac) (Ent.has_blk p1);cases this
 have G:i.toNat<=xs.length:=by omega
 have aa:i.toNat*z<=C.length:=by rw[hCl];exact Wy z G
 have p:=S (w:=w) (n:=xs.length) (i:=i.toNat) (v:=a0) (vv:=a2) (g0:=L.blk) (C:=C) (vs:=V) hC ⟨vb,vc,cv,Tv,p2,v1,v2,p3,X,Z⟩ hC1 v6 G (by
  have:(((xs.length+1)*B:Nat):Int)<=140737488355328:=by push_cast;exact h3
  omega)
 rw[Vl K]at p;refine Calls.mono p λe w' ⟨I,k,D,T',he,w1,w2,w3,w4,w5,w6,w7,w8,w9,wa,wb⟩=>?_;have r:(xs.insertIdx i.toNat x).length=xs.length+1:=by rw[UY,if_pos G]
 have hT:=Qd9 hI k1 (by rw[k3];rfl) (hσ 2 (Wl _)) w' ⟨z,some (I,k),true,noI⟩ w1 w2 w3 w4 w5 (λg1 c' h=>by
  injection h with h
  injection h with K h2
  subst K
  exact w6)
 refine ⟨_,Z3 (Z3 σ 0 none) 2 (some ⟨z,some (I,k),true,noI⟩),he,hT.1,hT.2.ent,?_,λs ob o=>?_,λs hs=>?_⟩
 ·rw[r];exact own_mem (Qh _ _ _) rfl w7 w8
 ·obtain ⟨rfl,rfl⟩:s=2/\ob=⟨z,true,false,(xs.insertIdx i.toNat x).map c⟩:=by
   rw[Sto.get_cons]at o;split at o
   ·rename_i h;injection o with o;exact ⟨h,o.symm⟩
   ·cases o
  have J:Row ⟨w',M,Z3 (Z3 σ 0 none) 2 (some ⟨z,some (I,k),true,noI⟩)⟩ ⟨z,true,false,(xs.insertIdx i.toNat x).map c⟩ I k:=by
   refine ⟨⟨D,T',w9,wa,λj y q d l R=>?_⟩,by rw[Wb,r];exact w7,w8,W,λj y l=>by
    obtain ⟨a,_,rfl⟩:=Wm.1 (Wq l)
    exact hc a⟩
   have ae:y.length=z:=by obtain ⟨a,_,rfl⟩:=Wm.1 (Wq l);exact hc a
   have hq:q<z:=by
    rcases Ws q y.length with h' | h'
    ·omega
    ·rw[Wi h']at R;cases R
   have hj:j<xs.length+1:=by
    rcases Ws j (xs.length+1) with h' | h'
    ·exact h'
    ·rw[Wi (by rw[Wb,r];exact h')]at l;cases l
   have ab:=Wy z (show j+1<=xs.length+1 from hj);rw[Vm]at ab;have E:=ins_get (C:=C) (vs:=V) (z:=z) (i:=i.toNat) (j:=j) (q:=q) aa Y hq;rw[<- wb,WM,if_pos Oo]at E;rw[Wh,List.getElem?_insertIdx]at l;have t:∀ u,D.toList[j*z+q]?=some u->Qhl ⟨w,M,σ⟩ true u d->∃ u,D[j*z+q]?=some u/\Qhl ⟨w',M,Z3 (Z3 σ 0 none) 2 (some ⟨z,some (I,k),true,noI⟩)⟩ true u d:=λu K h2=>⟨u,by simpa using K,h2.ext hT.2.toExt⟩;by_cases h4:j<i.toNat
   ·rw[if_pos h4]at E l;obtain ⟨u,F,O⟩:=hCr j y q d (by rw[Wh];exact l) R;exact t u (E.trans F) O
   ·rw[if_neg h4]at E l;by_cases h5:j=i.toNat
    ·rw[if_pos h5]at E l;rw[if_pos Oo]at l;obtain ⟨u,F,O⟩:=v5 0 y q d (by simpa using l) R;rw[UD,W0]at F;exact t u (E.trans F) O
    ·rw[if_neg h5]at E l;obtain ⟨u,F,O⟩:=hCr (j-1) y q d (by rw[Wh];exact l) R;exact t u (E.trans F) O
  exact QH.of (e:=⟨z,some (I,k),true,noI⟩) (by dsimp only;exact Qh _ _ _) rfl rfl rfl J (J.deep rfl _)
 ·have hs:3<=s:=hs;rw[Zi _ _ Oo,Zi _ _ Oo];exact hσ s (by show 2<=s;omega)
def insF{α:Type}(B:Int)(xs:List α)(i:Int)(ys:List α):Option (List α):=match ys with
 | [x]=>if 0<=i/\i<=xs.length/\((xs.length:Int)+1)*B<=140737488355328 then some (xs.insertIdx i.toNat x) else none
 | _=>none
theorem insF_ok {α:Type} {c:α->List DV} {P:Program} {f z:Nat} {B:Nat} (d:InsRaw P f z B) {g:Func} {cd:Code} (k:P.funcs[f]?=some g) (b:(g.name == "runtime.NumGoroutine")=false) (l:g.body=some cd) (m:∀ a,(c a).length=z)
  {xs ys r:List α} {i:Int} (H:Sm (insF B xs i ys) r):DCall P f [.own 0 0 xs.length,DI i,.own 1 0 ys.length] [(0,⟨z,true,false,xs.map c⟩),(1,⟨z,true,false,ys.map c⟩)] (.own 2 0 r.length) [(2,⟨z,true,false,r.map c⟩)]:=by
 match ys,H with
 | [],H=>cases H.h
 | _ :: _ :: _,H=>cases H.h
 | [x],H =>obtain ⟨h,j⟩:=cq H;have e:=se j;subst e;exact ins_dcall d k b l m xs x i h
def Qav(xs:List Int)(i:Int)(ys:List Int):Option (List Int):=insF 8 xs i ys
theorem QdB{xs ys r:List Int}{i:Int}(H:Sm (Qav xs i ys) r):DCall Tryz.prog 63 [.own 0 0 xs.length,DI i,.own 1 0 ys.length] [(0,⟨1,true,false,xs.map iC⟩),(1,⟨1,true,false,ys.map iC⟩)] (.own 2 0 r.length) [(2,⟨1,true,false,r.map iC⟩)] :=
 insF_ok (B:=8) insI_raw Tryz.func63 rfl rfl (λ_=>rfl) H
theorem QdA{α:Type}{c:α->List DV}(b:∀ a,(c a).length=3){xs ys r:List α}{i:Int}(H:Sm (insF 40 xs i ys) r):DCall Tryz.prog 61 [.own 0 0 xs.length,DI i,.own 1 0 ys.length] [(0,⟨3,true,false,xs.map c⟩),(1,⟨3,true,false,ys.map c⟩)] (.own 2 0 r.length) [(2,⟨3,true,false,r.map c⟩)] :=
 insF_ok (B:=40) insS_raw Tryz.func61 rfl rfl b H
end Go.Proofs.YthadnbdbfpggdaaGreatDoor
