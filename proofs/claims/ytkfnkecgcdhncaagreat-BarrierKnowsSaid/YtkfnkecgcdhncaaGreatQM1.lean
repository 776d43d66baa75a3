/- Parts of the proof. No condition. -/
import Derived.Test.YtkfnkecgcdhncaaGreatQM0
import Derived.WalkKit
import Derived.WalkSpells
import Derived.WalkLawsBesides
import Derived.Lib.Hide
import Derived.Orders
import Derived.Laws.CopyRow
import Derived.Laws.AppendOwn
import Derived.Laws.OwnMore
import Derived.Laws.MakeOwn
import Derived.Great.BuildSlice
import Derived.RegionTactic
import Derived.Deep.RegionHeld
namespace Go.Proofs.YtkfnkecgcdhncaaGreat
open Go.RowKit
set_option linter.unusedSimpArgs false
set_option linter.unusedVariables false
def gTab:Option (Nat×List Int):=none
inductive DV where
 | any
 | lit (v:Value)
 | sl (xs:List (List DV))
 | own (s off len:Nat)
 | ptr (s i j:Nat)
 | pp (xs:List DV)
 | agg (xs:List DV)
 | tup (xs:List DV)
 | fn (f:FuncId) (cap:List DV)
 | dp (z:Nat) (xs:List (List DV))
 deriving Inhabited
structure Ent where
 esz:Nat
 blk:Option (Nat×Nat)
 mu:Bool
 inn:Nat->Prop:=λ_=>False
def Ent.has(e:Ent)(k:Nat):Prop:=(∃ c,e.blk=some (k,c))\/e.inn k
theorem Ent.has_eq{e e0:Ent}(h:e.blk=e0.blk)(hi:e.inn=e0.inn){k:Nat}(hk:e.has k):e0.has k:=by unfold Ent.has at hk ⊢;rw [<- h,<- hi];~hk
theorem Ent.has_blk{e:Ent}{k c:Nat}(h:e.blk=some (k,c)):e.has k:=.inl ⟨c,h⟩
structure Mem where
 w:World
 M:Nat->Prop
 σ:Nat->Option (Option Ent)
def Mem.no(m:Mem)(k:Nat):Prop:=m.M k\/∃ s e,m.σ s=some (some e)/\e.mu=true/\e.has k
inductive PRep(w:World)(no:Nat->Prop):Value->DV->Prop
 | lit (v:Value):v.oneCell'=true->PRep w no v (.lit v)
 | nil (a:Option Addr) (cap:Nat):cap<=maxLen->PRep w no (.slice a 0 cap) (.sl [])
 | sl (b off cap sz:Nat) (xs:List (List DV)) (f:Nat->Nat->Value):0<sz->0<xs.length->xs.length<=cap->cap<=maxLen->¬ no b->b<w.heap.size ->
   (∀ (i:Nat) x,xs[i]?=some x->x.length=sz) ->
   (∀ (i:Nat) x (j:Nat) d,xs[i]?=some x->x[j]?=some d->w.cell? ⟨b,off+i*sz+j,none⟩=some (f i j)) ->
   (∀ (i:Nat) x (j:Nat) d,xs[i]?=some x->x[j]?=some d->PRep w no (f i j) d) ->
   PRep w no (.slice (some ⟨b,off,none⟩) xs.length cap) (.sl xs)
theorem Qbf{w w':World}{b o:Nat}(h:w'.heap[b]?=w.heap[b]?):w'.cell? ⟨b,o,none⟩=w.cell? ⟨b,o,none⟩ :=
 World.cell?_of_block (a:=⟨b,o,none⟩) h
theorem PRep.ext{w w':World}{no no':Nat->Prop}(hsz:w.heap.size<=w'.heap.size)(hk:∀ k,k<w.heap.size->¬ no k->w'.heap[k]?=w.heap[k]?/\¬ no' k){v:Value}{d:DV}(h:PRep w no v d):PRep w' no' v d:=by
 induction h with
 | lit v h=>~.lit v h
 | nil a cap h=>~.nil a cap h
 | sl b off cap sz xs f h1 h2 h3 h4 h5 h6 h7 h8 _ ih =>
  ð⟨k1,k2⟩:=hk b h6 h5
  ~.sl b off cap sz xs f h1 h2 h3 h4 k2 Oo h7 (λi x j d hx hd=>by rw [Qbf k1];~h8 i x j d hx hd) ih
inductive Rep(m:Mem):Value->DV->Prop
 | any (v:Value):Rep m v .any
 | pure {v:Value} {d:DV}:PRep m.w m.no v d->Rep m v d
 | own {s:Nat} {e:Ent} {g cap off len:Nat}:m.σ s=some (some e)->e.blk=some (g,cap)->off+len<=cap->cap<=maxLen ->
   Rep m (.slice (some ⟨g,off*e.esz,none⟩) len (cap-off)) (.own s off len)
 | ownNil {s:Nat} {e:Ent}:m.σ s=some (some e)->e.blk=none->Rep m (.slice none 0 0) (.own s 0 0)
 | ownOld {s:Nat} {off len:Nat} {u:Value}:m.σ s=some none->Rep m u (.own s off len)
 | ptr {s:Nat} {e:Ent} {g cap i j:Nat}:m.σ s=some (some e)->e.blk=some (g,cap)->Rep m (.pointer (some ⟨g,i*e.esz+j,none⟩)) (.ptr s i j)
 | ptrOld {s:Nat} {i j:Nat} {u:Value}:m.σ s=some none->Rep m u (.ptr s i j)
 | pp {b off:Nat} {xs:List DV} (f:Nat->Value):¬ m.no b->b<m.w.heap.size ->
   (∀ (j:Nat) d,xs[j]?=some d->m.w.cell? ⟨b,off+j,none⟩=some (f j))->(∀ (j:Nat) d,xs[j]?=some d->PRep m.w m.no (f j) d) ->
   Rep m (.pointer (some ⟨b,off,none⟩)) (.pp xs)
 | agg {vs:List Value} {xs:List DV}:vs.length=xs.length->(∀ (i:Nat) v d,vs[i]?=some v->xs[i]?=some d->Rep m v d)->Rep m (.agg vs.toArray) (.agg xs)
 | tup {vs:List Value} {xs:List DV}:vs.length=xs.length->(∀ (i:Nat) v d,vs[i]?=some v->xs[i]?=some d->Rep m v d)->Rep m (.tuple vs.toArray) (.tup xs)
 | fn {f:FuncId} {vs:List Value} {xs:List DV}:vs.length=xs.length->(∀ (i:Nat) v d,vs[i]?=some v->xs[i]?=some d->Rep m v d)->Rep m (.func (.func f) #[] vs.toArray) (.fn f xs)
 | dp (v:Value) {z:Nat} {xs:List (List DV)}:Rep m v (.dp z xs)
structure Ext(m m':Mem):Prop where
 size:m.w.heap.size<=m'.w.heap.size
 M:m'.M=m.M
 keep:∀ k,k<m.w.heap.size->¬ m.no k->m'.w.heap[k]?=m.w.heap[k]?/\¬ m'.no k
 ent:∀ s x,m.σ s=some x->∃ x',m'.σ s=some x'/\∀ e',x'=some e'->∃ e,x=some e/\e'.esz=e.esz/\e'.blk=e.blk
theorem Ext.refl(m:Mem):Ext m m:=⟨Wl _,rfl,λ_ _ h=>⟨rfl,h⟩,λ_ x h=>⟨x,h,λe' h=>⟨e',h,rfl,rfl⟩⟩⟩
theorem Ext.trans{a b c:Mem}(h:Ext a b)(k:Ext b c):Ext a c:=by
 &⟨Ug h.size k.size,k.M.trans h.M,λi hi hn=>?_,λs x hx=>?_⟩
 ·ð⟨h1,h2⟩:=h.keep i hi hn
  ð⟨k1,k2⟩:=k.keep i (Vm hi h.size) h2
  ~⟨k1.trans h1,k2⟩
 ·ð⟨x1,h1,h2⟩:=h.ent s x hx
  ð⟨x2,k1,k2⟩:=k.ent s x1 h1
  &⟨x2,k1,λe' he'=>?_⟩
  ð⟨e1,y1,y2,y3⟩:=k2 e' he'
  ð⟨e0,z1,z2,z3⟩:=h2 e1 y1
  ~⟨e0,z1,y2.trans z2,y3.trans z3⟩
theorem Ext.live{m m':Mem}(h:Ext m m'){s:Nat}{e:Ent}(he:m.σ s=some (some e)):m'.σ s=some none\/∃ e',m'.σ s=some (some e')/\e'.esz=e.esz/\e'.blk=e.blk:=by
 ð⟨x',h1,h2⟩:=h.ent s _ he
 cases x' with
 | none=>~.inl h1
 | some e' =>
  ð⟨e0,k1,k2,k3⟩:=h2 e' rfl
  injection k1 with k1
  subst k1
  ~.inr ⟨e',h1,k2,k3⟩
theorem Ext.dead{m m':Mem}(h:Ext m m'){s:Nat}(he:m.σ s=some none):m'.σ s=some none:=by
 ð⟨x',h1,h2⟩:=h.ent s _ he
 cases x' with
 | none=>~h1
 | some e'=>ð⟨e0,k1,_⟩:=h2 e' rfl;cases k1
theorem Rep.ext{m m':Mem}(h:Ext m m'){v:Value}{d:DV}(r:Rep m v d):Rep m' v d:=by
 induction r with
 | any v=>~.any v
 | pure p=>~.pure (p.ext h.size h.keep)
 | @own s e g cap off len h1 h2 h3 h4 =>
  rcases h.live h1 with k | ⟨e',k1,k2,k3⟩
  ·~.ownOld k
  ·rw [<- k2];~.own k1 (k3.trans h2) h3 h4
 | @ownNil s e h1 h2 =>
  rcases h.live h1 with k | ⟨e',k1,k2,k3⟩
  ·~.ownOld k
  ·~.ownNil k1 (k3.trans h2)
 | @ownOld s off len u h1=>~.ownOld (h.dead h1)
 | @ptr s e g cap i j h1 h2 =>
  rcases h.live h1 with k | ⟨e',k1,k2,k3⟩
  ·~.ptrOld k
  ·rw [<- k2];~.ptr k1 (k3.trans h2)
 | @ptrOld s i j u h1=>~.ptrOld (h.dead h1)
 | @pp b off xs f h1 h2 h3 h4 =>
  ð⟨k1,k2⟩:=h.keep b h2 h1
  ~.pp f k2 (Vm h2 h.size) (λj d hd=>by rw [Qbf k1];~h3 j d hd) (λj d hd=>(h4 j d hd).ext h.size h.keep)
 | agg hl _ ih=>~.agg hl ih
 | tup hl _ ih=>~.tup hl ih
 | fn hl _ ih=>~.fn hl ih
 | dp v=>~.dp v
structure Ob where
 esz:Nat
 arr:Bool
 frz:Bool
 els:List (List DV)
def QgN(m:Mem)(arr:Bool)(v:Value)(d:DV):Prop:=v.oneCell'=true/\if arr then PRep m.w m.no v d else Rep m v d
structure Row(m:Mem)(ob:Ob)(g cap:Nat):Prop where
 cells:∃ cur T,m.w.heap[g]?=some (.cells cur T (0,0))/\cur.size=cap*ob.esz/\∀ (i:Nat) x (j:Nat) d,ob.els[i]?=some x->x[j]?=some d->∃ u,cur[i*ob.esz+j]?=some u/\QgN m ob.arr u d
 len:ob.els.length<=cap
 max:cap<=maxLen
 pos:0<ob.esz
 sz:∀ (i:Nat) x,ob.els[i]?=some x->x.length=ob.esz
def DpV(m:Mem)(inn:Nat->Prop)(u:Value)(z:Nat)(xs:List (List DV)):Option Nat->Prop
 | none=>u = .slice none 0 0/\xs=[]/\0<z
 | some b=>inn b/\∃ cap,u = .slice (some ⟨b,0,none⟩) xs.length cap/\Row m ⟨z,true,false,xs⟩ b cap
def Deep(m:Mem)(inn:Nat->Prop)(ob:Ob)(g:Nat):Prop:=∃ B:Nat->Nat->Option Nat,
 (∀ (i:Nat) x (j:Nat) z xs,ob.els[i]?=some x->x[j]?=some (.dp z xs)->∃ u,m.w.cell? ⟨g,i*ob.esz+j,none⟩=some u/\DpV m inn u z xs (B i j)) /\
 (∀ i j i' j' b,inn b->B i j=some b->B i' j'=some b->i=i'/\j=j')
theorem Deep.flat{m:Mem}{inn:Nat->Prop}{ob:Ob}{g:Nat}(h:∀ (i:Nat) x (j:Nat) z xs,ob.els[i]?=some x->x[j]?=some (.dp z xs)->False):Deep m inn ob g :=
 ⟨λ_ _=>none,λi x j z xs h1 h2=>(h i x j z xs h1 h2).elim,λi j i' j' b _ h=>by cases h⟩
theorem Row.deep{m:Mem}{ob:Ob}{g cap:Nat}(r:Row m ob g cap)(ha:ob.arr=true)(inn:Nat->Prop):Deep m inn ob g:=Deep.flat λi x j z xs h1 h2=>by
 ð⟨cur,T,c1,c2,c3⟩:=r.cells
 ð⟨u,hu,h3,h4⟩:=c3 i x j _ h1 h2
 rw [ha] at h4
 cases h4
def Holds(m:Mem)(s:Nat)(ob:Ob):Prop :=
 ∃ e,m.σ s=some (some e)/\e.esz=ob.esz/\e.mu=!ob.frz /\
  match e.blk with
  | none=>ob.els=[]/\0<ob.esz
  | some (g,cap)=>Row m ob g cap/\Deep m e.inn ob g
structure Fm where
 w0:World
 X:Nat->Prop
 Y:Nat->Prop
def TabF(F:Fm)(M:Nat->Prop):Prop:=∀ k l,gTab=some (k,l)->k<F.w0.heap.size/\¬ F.X k/\¬ F.Y k/\¬ M k/\∀ (i:Nat) x,l[i]?=some x->F.w0.cell? ⟨k,i,none⟩=some (.int .u8 x)
theorem TabF.none{F:Fm}{M:Nat->Prop}(h:gTab=Option.none):TabF F M:=λk l e=>by rw [h] at e;cases e
structure Inv(F:Fm)(m:Mem):Prop where
 os:m.w.os=F.w0.os
 tape:m.w.tape=F.w0.tape
 output:m.w.output=F.w0.output
 size:F.w0.heap.size<=m.w.heap.size
 old:∀ k,k<F.w0.heap.size->¬ F.X k->m.w.heap[k]?=F.w0.heap[k]?
 inj:∀ s s' e e' g,m.σ s=some (some e)->m.σ s'=some (some e')->e.has g->e'.has g->s=s'
 at_:∀ s e g,m.σ s=some (some e)->e.has g->g<m.w.heap.size/\¬ m.M g/\(e.mu=true->F.w0.heap.size<=g\/F.X g)/\(F.w0.heap.size<=g\/F.Y g)
 lt:∀ k,m.M k->k<F.w0.heap.size/\¬ F.X k
 wf:∀ s e g c,m.σ s=some (some e)->e.blk=some (g,c)->¬ e.inn g
 tab:TabF F m.M
structure Loc(U:List Nat)(m m':Mem):Prop extends Ext m m' where
 same:∀ s,s∉U->m'.σ s=m.σ s
 blk:∀ k,k<m.w.heap.size->(∀ s e,m.σ s=some (some e)->e.has k->s∉U)->m'.w.heap[k]?=m.w.heap[k]?
theorem QgN.ext{m m':Mem}(h:Ext m m'){arr:Bool}{v:Value}{d:DV}(r:QgN m arr v d):QgN m' arr v d:=by
 &⟨r.1,?_⟩
 have:=r.2
 cases arr
 ·~Rep.ext h this
 ·~PRep.ext h.size h.keep this
theorem Row.ext{m m':Mem}(h:Ext m m'){ob:Ob}{g cap:Nat}(r:Row m ob g cap)(hg:m'.w.heap[g]?=m.w.heap[g]?):Row m' ob g cap:=by
 ð⟨cur,T,h1,h2,h3⟩:=r.cells
 ~⟨⟨cur,T,hg.trans h1,h2,λi x j d hx hd=>(h3 i x j d hx hd).imp λu hu=>⟨hu.1,hu.2.ext h⟩⟩,r.len,r.max,r.pos,r.sz⟩
theorem Deep.ext{m m':Mem}(h:Ext m m'){inn:Nat->Prop}{ob:Ob}{g:Nat}(d:Deep m inn ob g)(hg:∀ {o},m'.w.cell? ⟨g,o,none⟩=m.w.cell? ⟨g,o,none⟩)(hb:∀ b,inn b->m'.w.heap[b]?=m.w.heap[b]?):Deep m' inn ob g:=by
 ð⟨B,d1,d2⟩:=d
 &⟨B,λi x j z xs h1 h2=>?_,d2⟩
 ð⟨u,k1,k2⟩:=d1 i x j z xs h1 h2
 &⟨u,by rw [hg];~k1,?_⟩
 cases hB:B i j with
 | none=>rw [hB] at k2;~k2
 | some b =>
  rw [hB] at k2
  ð⟨q1,cap,q2,q3⟩:=k2
  ~⟨q1,cap,q2,q3.ext h (hb b q1)⟩
theorem Holds.loc{F:Fm}{U:List Nat}{m m':Mem}(hI:Inv F m)(h:Loc U m m'){s:Nat}{ob:Ob}(hs:s∉U)(r:Holds m s ob):Holds m' s ob:=by
 ð⟨e,h1,h2,h3,h4⟩:=r
 &⟨e,(h.same s hs).trans h1,h2,h3,?_⟩
 cases hb:e.blk with
 | none=>rw [hb] at h4;~h4
 | some p =>
  ð⟨g,cap⟩:=p
  rw [hb] at h4
  have same:∀ g,e.has g->m'.w.heap[g]?=m.w.heap[g]?:=λg hg=>h.blk g (hI.at_ s e g h1 hg).1 λs' e' h1' hb'=>by
   rw [<- hI.inj s s' e e' g h1 h1' hg hb']
   ~hs
  ~⟨Row.ext h.toExt h4.1 (same g (Ent.has_blk hb)),h4.2.ext h.toExt (Qbf (same g (Ent.has_blk hb))) λb hb=>same b (.inr hb)⟩
theorem Loc.refl(U:List Nat)(m:Mem):Loc U m m:=⟨Ext.refl m,λ_ _=>rfl,λ_ _ _=>rfl⟩
theorem Loc.trans{U V:List Nat}{a b c:Mem}(h:Loc U a b)(k:Loc V b c)
  (hb:∀ s e g,b.σ s=some (some e)->e.has g->g<a.w.heap.size->s∈U++V->∃ s' e',a.σ s'=some (some e')/\e'.has g/\s'∈U++V):Loc (U++V) a c:=by
 &⟨h.toExt.trans k.toExt,λs hs=>?_,λi hi hn=>?_⟩
 ·rw [Wn,not_or] at hs
  ~(k.same s hs.2).trans (h.same s hs.1)
 ·have h1:=h.blk i hi λs e he hb' hs=>hn s e he hb' (Wf _ hs)
  rw [<- h1]
  &k.blk i (Vm hi h.size) λs e he hb' hs=>?_
  ð⟨s',e',x1,x2,x3⟩:=hb s e i he hb' hi (Wj _ hs)
  ~hn s' e' x1 x2 x3
abbrev Sto:=List (Nat×Ob)
def Sto.get:Sto->Nat->Option Ob
 | [],_=>none
 | (k,ob) :: l,s=>cond (Nat.beq s k) (some ob) (Sto.get l s)
abbrev Env:=List (Nat×DV)
def Env.get:Env->Nat->DV
 | [],_=>.any
 | (k,d) :: l,s=>cond (Nat.beq s k) d (Env.get l s)
theorem Jh{α:Type}(a b:Nat)(x y:α):cond (Nat.beq a b) x y=if a=b then x else y:=by
 cases h:Nat.beq a b with
 | true=>rw [if_pos (Nat.eq_of_beq_eq_true h)];rfl
 | false=>rw [if_neg (YL h)];rfl
theorem Sto.get_nil(s:Nat):Sto.get [] s=none:=rfl
theorem Sto.get_cons(k:Nat)(ob:Ob)(l:Sto)(s:Nat):Sto.get ((k,ob) :: l) s=if s=k then some ob else Sto.get l s:=Jh _ _ _ _
theorem Env.get_nil(s:Nat):Env.get [] s = .any:=rfl
theorem Env.get_cons(k:Nat)(d:DV)(l:Env)(s:Nat):Env.get ((k,d) :: l) s=if s=k then d else Env.get l s:=Jh _ _ _ _
theorem turn{F:Fm}{m:Mem}(hI:Inv F m)(U:List Nat)(w':World)(σ':Nat->Option (Option Ent))
  (hos:w'.os=m.w.os)(htape:w'.tape=m.w.tape)(hout:w'.output=m.w.output)(hsize:m.w.heap.size<=w'.heap.size)
  (hblk:∀ k,k<m.w.heap.size->(∀ s∈U,∀ e,m.σ s=some (some e)->e.has k->e.mu=false)->w'.heap[k]?=m.w.heap[k]?)
  (hsame:∀ s,s∉U->σ' s=m.σ s)
  (hent:∀ s∈U,∀ x,m.σ s=some x->∃ x',σ' s=some x'/\∀ e',x'=some e'->∃ e,x=some e/\e'.esz=e.esz/\e'.blk=e.blk)
  (hnew:∀ s∈U,∀ e' g,σ' s=some (some e')->e'.has g->(∃ s0∈U,∃ e,m.σ s0=some (some e)/\e.has g/\(e'.mu=true->e.mu=true)/\∀ s1∈U,∀ e1,σ' s1=some (some e1)->e1.has g->s1=s)\/(m.w.heap.size<=g/\g<w'.heap.size/\∀ s1∈U,∀ e1,σ' s1=some (some e1)->e1.has g->s1=s))
  (hwf:∀ s∈U,∀ e g c,σ' s=some (some e)->e.blk=some (g,c)->¬ e.inn g) :
  Inv F ⟨w',m.M,σ'⟩/\Loc U m ⟨w',m.M,σ'⟩:=by
 have hbs:F.w0.heap.size<=m.w.heap.size:=hI.size
 have old:∀ s e g,σ' s=some (some e)->e.has g->(∃ s0 e0,m.σ s0=some (some e0)/\e0.has g/\(e.mu=true->e0.mu=true)/\((s∉U/\s0=s)\/(s∈U/\s0∈U/\∀ s1∈U,∀ e1,σ' s1=some (some e1)->e1.has g->s1=s)))\/(s∈U/\m.w.heap.size<=g/\g<w'.heap.size/\∀ s1∈U,∀ e1,σ' s1=some (some e1)->e1.has g->s1=s):=λs e g h1 h2=>by
  by_cases hs:s∈U
  ·rcases hnew s hs e g h1 h2 with ⟨s0,k1,e0,k2,k3,k4,k5⟩ | ⟨k1,k2,k3⟩
   ·~.inl ⟨s0,e0,k2,k3,k4,.inr ⟨hs,k1,k5⟩⟩
   ·~.inr ⟨hs,k1,k2,k3⟩
  ·~.inl ⟨s,e,(hsame s hs)▸h1,h2,id,.inl ⟨hs,rfl⟩⟩
 &⟨⟨hos.trans hI.os,htape.trans hI.tape,hout.trans hI.output,Ug hI.size hsize,?_,?_,?_,hI.lt,λs e g c h1 h2=>by
  by_cases hs:s∈U
  ·~hwf s hs e g c h1 h2
  ·~hI.wf s e g c ((hsame s hs)▸h1) h2,hI.tab⟩,⟨⟨hsize,rfl,?_,?_⟩,hsame,?_⟩⟩
 ·intro k hk hX
  rw [<- hI.old k hk hX]
  &hblk k Oo λs _ e h1 h2=>?_
  cases hm:e.mu with
  | false=>rfl
  | true =>
   rcases (hI.at_ s e k h1 h2).2.2.1 hm with h | h
   ·omega
   ·~absurd h hX
 ·intro s s' e e' g h1 h2 h3 h4
  rcases old s e g h1 h3 with ⟨s0,e0,a1,a2,_,a3⟩ | ⟨a0,a1,a2,a3⟩
  ·rcases old s' e' g h2 h4 with ⟨s0',e0',b1,b2,_,b3⟩ | ⟨b0,b1,b2,b3⟩
   ·have hss:=hI.inj s0 s0' e0 e0' g a1 b1 a2 b2
    subst hss
    rcases a3 with ⟨x1,x2⟩ | ⟨x1,x2,x3⟩
    ·rcases b3 with ⟨y1,y2⟩ | ⟨y1,y2,y3⟩
     ·~x2.symm.trans y2
     ·~absurd (x2▸y2) x1
    ·rcases b3 with ⟨y1,y2⟩ | ⟨y1,y2,y3⟩
     ·~absurd (y2▸x2) y1
     ·~(x3 s' y1 e' h2 h4).symm
   ·have:=(hI.at_ s0 e0 g a1 a2).1;omega
  ·rcases old s' e' g h2 h4 with ⟨s0',e0',b1,b2,_,b3⟩ | ⟨b0,b1,b2,b3⟩
   ·have:=(hI.at_ s0' e0' g b1 b2).1;omega
   ·~(a3 s' b0 e' h2 h4).symm
 ·intro s e g h1 h2
  rcases old s e g h1 h2 with ⟨s0,e0,a1,a2,a3,_⟩ | ⟨a0,a1,a2,_⟩
  ·ð⟨x1,x2,x3,x4⟩:=hI.at_ s0 e0 g a1 a2
   ~⟨Vm x1 hsize,x2,λh=>x3 (a3 h),x4⟩
  ·~⟨a2,λh=>by have:=(hI.lt g h).1;omega,λ_=>.inl Oo,.inl Oo⟩
 ·intro k hk hno
  &⟨hblk k hk λs _ e h1 h2=>?_,λh=>?_⟩
  ·cases hm:e.mu with
   | false=>rfl
   | true=>~absurd (.inr ⟨s,e,h1,hm,h2⟩) hno
  ·rcases h with h | ⟨s,e,h1,h2,h3⟩
   ·~hno (.inl h)
   ·rcases old s e k h1 h3 with ⟨s0,e0,a1,a2,a3,_⟩ | ⟨a0,a1,a2,_⟩
    ·~hno (.inr ⟨s0,e0,a1,a3 h2,a2⟩)
    ·omega
 ·intro s x h
  by_cases hs:s∈U
  ·~hent s hs x h
  ·~⟨x,(hsame s hs).trans h,λe' h=>⟨e',h,rfl,rfl⟩⟩
 ·intro k hk h
  ~hblk k hk λs hs e h1 h2=>absurd hs (h s e h1 h2)
def ZN(σ:Nat->Option (Option Ent))(s:Nat)(e:Option Ent):Nat->Option (Option Ent):=λj=>if j=s then some e else σ j
theorem Qi(σ:Nat->Option (Option Ent))(s:Nat)(e:Option Ent):ZN σ s e s=some e:=by simp [ZN]
theorem QZ(σ:Nat->Option (Option Ent)){s j:Nat}(e:Option Ent)(h:j≠s):ZN σ s e j=σ j:=by simp [ZN,h]
theorem turn_newD{F:Fm}{m:Mem}(hI:Inv F m){s:Nat}(hs:m.σ s=none)(w':World)(e:Ent)
  (hos:w'.os=m.w.os)(htape:w'.tape=m.w.tape)(hout:w'.output=m.w.output)(hsize:m.w.heap.size<=w'.heap.size)(hold:∀ k,k<m.w.heap.size->w'.heap[k]?=m.w.heap[k]?)
  (hb:∀ g,e.has g->m.w.heap.size<=g/\g<w'.heap.size)(hi:∀ g c,e.blk=some (g,c)->¬ e.inn g):Inv F ⟨w',m.M,ZN m.σ s (some e)⟩/\Loc [s] m ⟨w',m.M,ZN m.σ s (some e)⟩:=by
 &turn hI [s] w' _ hos htape hout hsize (λk hk _=>hold k hk) (λj hj=>QZ _ _ (by simpa using hj)) (λj hj x h0=>?_) (λj hj e' g h1 h2=>?_) (λj hj e' g c h1 h2=>?_)
 ·obtain rfl:j=s:=by simpa using hj
  rw [hs] at h0;cases h0
 ·obtain rfl:j=s:=by simpa using hj
  rw [Qi] at h1
  injection h1 with h1
  injection h1 with h1
  subst h1
  ð⟨k1,k2⟩:=hb g h2
  ~.inr ⟨k1,k2,λs1 h1 _ _ _=>by simpa using h1⟩
 ·obtain rfl:j=s:=by simpa using hj
  rw [Qi] at h1
  injection h1 with h1
  injection h1 with h1
  subst h1
  ~hi g c h2
theorem turn_atD{F:Fm}{m:Mem}(hI:Inv F m){s:Nat}{e:Ent}(he:m.σ s=some (some e))(w':World)(b:Bool)(hmu:b=true->e.mu=true)
  (hos:w'.os=m.w.os)(htape:w'.tape=m.w.tape)(hout:w'.output=m.w.output)(hsize:m.w.heap.size<=w'.heap.size)(hold:∀ k,k<m.w.heap.size->(e.has k->e.mu=false)->w'.heap[k]?=m.w.heap[k]?) :
  Inv F ⟨w',m.M,ZN m.σ s (some { e with mu:=b })⟩/\Loc [s] m ⟨w',m.M,ZN m.σ s (some { e with mu:=b })⟩:=by
 &turn hI [s] w' _ hos htape hout hsize (λk hk h=>hold k hk λhc=>h s Os e he hc) (λj hj=>QZ _ _ (by simpa using hj)) (λj hj x h0=>?_) (λj hj e1 g h1 h2=>?_) (λj hj e1 g c h1 h2=>?_)
 ·obtain rfl:j=s:=by simpa using hj
  rw [he] at h0
  injection h0 with h0
  subst h0
  ~⟨_,Qi _ _ _,λe' h=>by injection h with h;subst h;~⟨e,rfl,rfl,rfl⟩⟩
 ·obtain rfl:j=s:=by simpa using hj
  rw [Qi] at h1
  injection h1 with h1
  injection h1 with h1
  subst h1
  ~.inl ⟨j,Os,e,he,h2,hmu,λs1 h1 _ _ _=>by simpa using h1⟩
 ·obtain rfl:j=s:=by simpa using hj
  rw [Qi] at h1
  injection h1 with h1
  injection h1 with h1
  subst h1
  ~hI.wf j e g c he h2
theorem turn_moveD{F:Fm}{m:Mem}(hI:Inv F m){s t:Nat}{e:Ent}(he:m.σ s=some (some e))(hm:e.mu=true)(ht:m.σ t=none)(w':World)(e':Ent)
  (hos:w'.os=m.w.os)(htape:w'.tape=m.w.tape)(hout:w'.output=m.w.output)(hsize:m.w.heap.size<=w'.heap.size)(hold:∀ k,k<m.w.heap.size->¬ e.has k->w'.heap[k]?=m.w.heap[k]?)
  (hb:∀ g,e'.has g->e.has g\/(m.w.heap.size<=g/\g<w'.heap.size))(hi:∀ g c,e'.blk=some (g,c)->¬ e'.inn g) :
  Inv F ⟨w',m.M,ZN (ZN m.σ s none) t (some e')⟩/\Loc [s,t] m ⟨w',m.M,ZN (ZN m.σ s none) t (some e')⟩:=by
 have hst:s≠t:=λh=>by subst h;rw [he] at ht;cases ht
 have one:∀ s1∈[s,t],∀ e1,ZN (ZN m.σ s none) t (some e') s1=some (some e1)->s1=t/\e1=e':=λs1 h1 e1 h=>by
  rcases Wt.1 h1 with rfl | h1
  ·rw [QZ _ _ hst,Qi] at h;cases h
  ·obtain rfl:s1=t:=by simpa using h1
   rw [Qi] at h
   injection h with h
   injection h with h
   ~⟨rfl,h.symm⟩
 &turn hI [s,t] w' _ hos htape hout hsize (λk hk h=>hold k hk λhc=>?_) (λj hj=>?_) (λj hj x h0=>?_) (λj hj e1 g h1 h2=>?_) (λj hj e1 g c h1 h2=>?_)
 ·have:=h s Os e he hc
  rw [hm] at this;cases this
 ·rw [QZ _ _ (λh=>hj (by simp [h])),QZ _ _ (λh=>hj (by simp [h]))]
 ·rcases Wt.1 hj with rfl | h1
  ·~⟨none,by rw [QZ _ _ hst,Qi],λ_ h=>by cases h⟩
  ·obtain rfl:j=t:=by simpa using h1
   rw [ht] at h0;cases h0
 ·ð⟨rfl,rfl⟩:=one j hj e1 h1
  rcases hb g h2 with h | ⟨k1,k2⟩
  ·~.inl ⟨s,Os,e,he,h,λ_=>hm,λs1 h1 e1 h _=>(one s1 h1 e1 h).1⟩
  ·~.inr ⟨k1,k2,λs1 h1 e1 h _=>(one s1 h1 e1 h).1⟩
 ·ð⟨rfl,rfl⟩:=one j hj e1 h1
  ~hi g c h2
def noI:Nat->Prop:=λ_=>False
theorem QcV{F:Fm}{m:Mem}(hI:Inv F m){s:Nat}(hs:m.σ s=none)(w':World)(e:Ent)
  (hos:w'.os=m.w.os)(htape:w'.tape=m.w.tape)(hout:w'.output=m.w.output)(hsize:m.w.heap.size<=w'.heap.size)(hold:∀ k,k<m.w.heap.size->w'.heap[k]?=m.w.heap[k]?)
  (hb:∀ g c,e.blk=some (g,c)->m.w.heap.size<=g/\g<w'.heap.size)(hi:e.inn=noI:=by rfl):Inv F ⟨w',m.M,ZN m.σ s (some e)⟩/\Loc [s] m ⟨w',m.M,ZN m.σ s (some e)⟩ :=
 turn_newD hI hs w' e hos htape hout hsize hold (λg h=>by
  rcases h with ⟨c,h⟩ | h
  ·~hb g c h
  ·rw [hi] at h;~h.elim) λg c _=>by rw [hi];~id
theorem turn_at{F:Fm}{m:Mem}(hI:Inv F m){s:Nat}{e:Ent}(he:m.σ s=some (some e))(w':World)(b:Bool)(hmu:b=true->e.mu=true)
  (hos:w'.os=m.w.os)(htape:w'.tape=m.w.tape)(hout:w'.output=m.w.output)(hsize:m.w.heap.size<=w'.heap.size)(hold:∀ k,k<m.w.heap.size->(∀ c,e.blk=some (k,c)->e.mu=false)->w'.heap[k]?=m.w.heap[k]?) :
  Inv F ⟨w',m.M,ZN m.σ s (some { e with mu:=b })⟩/\Loc [s] m ⟨w',m.M,ZN m.σ s (some { e with mu:=b })⟩ :=
 turn_atD hI he w' b hmu hos htape hout hsize λk hk h=>hold k hk λc hc=>h (.inl ⟨c,hc⟩)
theorem QdM{F:Fm}{m:Mem}(hI:Inv F m){s t:Nat}{e:Ent}(he:m.σ s=some (some e))(hm:e.mu=true)(ht:m.σ t=none)(w':World)(e':Ent)
  (hos:w'.os=m.w.os)(htape:w'.tape=m.w.tape)(hout:w'.output=m.w.output)(hsize:m.w.heap.size<=w'.heap.size)(hold:∀ k,k<m.w.heap.size->(∀ c,e.blk≠some (k,c))->w'.heap[k]?=m.w.heap[k]?)
  (hb:∀ g c,e'.blk=some (g,c)->(∃ c',e.blk=some (g,c'))\/(m.w.heap.size<=g/\g<w'.heap.size))(hi:e'.inn=noI:=by rfl) :
  Inv F ⟨w',m.M,ZN (ZN m.σ s none) t (some e')⟩/\Loc [s,t] m ⟨w',m.M,ZN (ZN m.σ s none) t (some e')⟩ :=
 turn_moveD hI he hm ht w' e' hos htape hout hsize (λk hk h=>hold k hk λc hc=>h (.inl ⟨c,hc⟩)) (λg h=>by
  rcases h with ⟨c,h⟩ | h
  ·rcases hb g c h with h | h
   ·~.inl (.inl h)
   ·~.inr h
  ·rw [hi] at h;~h.elim) λg c _=>by rw [hi];~id
inductive TK where
 | int (k:IntKind) | flt (k:FloatKind) | bool | str | slice (e:Nat) | struct (fs:List (Nat×Nat)) | array (n e:Nat) | ptr (e:Nat) | other
structure TyD where
 k:TK
 size:Nat
 bytes:Nat
 zero:List DV
def TyD.agg(d:TyD):Bool:=match d.k with | .struct _ | .array _ _=>true | _=>false
structure QF(P:Program)(t:Nat)(d:TyD):Prop where
 kind:match d.k with
  | .int k=>P.underlying t=some (.int k)
  | .flt k=>P.underlying t=some (.float k)
  | .bool=>P.underlying t=some .bool
  | .str=>P.underlying t=some .string
  | .slice e=>P.underlying t=some (.slice e)
  | .struct fs=>∃ fields,P.underlying t=some (.struct fields)/\fields.toList.map (λf=>(f.offset,P.cellsOf f.type))=fs/\fields.toList.all (λf=>(P.info? f.type).isSome)=true
  | .array n e=>P.underlying t=some (.array n e)
  | .ptr e=>P.underlying t=some (.pointer e)
  | .other=>∃ u,P.underlying t=some u/\(match u with | .struct _ | .array _ _=>False | _=>True)
 info:(P.info? t).map (λi=>(i.size,i.bytes))=some (d.size,d.bytes)
 zero:∃ z,(P.info? t).map (·.zero)=some (some z)/\z.cells.toList.map DV.lit=d.zero/\z.cells.toList.all Value.oneCell'=true/\(if d.agg then ∃ cs,z = .agg cs else z.oneCell'=true)
section
variable{m:Mem}
theorem Rep.lit_inv{v u:Value}(h:Rep m v (.lit u)):v=u:=by
 cases h with | pure h=>cases h with | lit=>rfl
theorem Rep.lit_one{v u:Value}(h:Rep m v (.lit u)):u.oneCell'=true:=by
 cases h with | pure h=>cases h with | lit _ h=>~h
theorem Rep.sl_inv{v:Value}{xs:List (List DV)}(h:Rep m v (.sl xs)):PRep m.w m.no v (.sl xs):=by
 cases h with | pure h=>~h
theorem Rep.agg_inv{v:Value}{xs:List DV}(h:Rep m v (.agg xs)):∃ vs:List Value,v = .agg vs.toArray/\vs.length=xs.length/\∀ (i:Nat) u d,vs[i]?=some u->xs[i]?=some d->Rep m u d:=by
 cases h with
 | pure h=>cases h
 | @agg vs _ h1 h2=>~⟨vs,rfl,h1,h2⟩
theorem Rep.tup_inv{v:Value}{xs:List DV}(h:Rep m v (.tup xs)):∃ vs:List Value,v = .tuple vs.toArray/\vs.length=xs.length/\∀ (i:Nat) u d,vs[i]?=some u->xs[i]?=some d->Rep m u d:=by
 cases h with
 | pure h=>cases h
 | @tup vs _ h1 h2=>~⟨vs,rfl,h1,h2⟩
theorem Rep.fn_inv{v:Value}{f:FuncId}{xs:List DV}(h:Rep m v (.fn f xs)):∃ vs:List Value,v = .func (.func f) #[] vs.toArray/\vs.length=xs.length/\∀ (i:Nat) u d,vs[i]?=some u->xs[i]?=some d->Rep m u d:=by
 cases h with
 | pure h=>cases h
 | @fn _ vs _ h1 h2=>~⟨vs,rfl,h1,h2⟩
theorem Rep.pp_inv{v:Value}{xs:List DV}(h:Rep m v (.pp xs)):∃ b off,∃ f:Nat->Value,v = .pointer (some ⟨b,off,none⟩)/\¬ m.no b/\b<m.w.heap.size /\
  (∀ (j:Nat) d,xs[j]?=some d->m.w.cell? ⟨b,off+j,none⟩=some (f j))/\∀ (j:Nat) d,xs[j]?=some d->PRep m.w m.no (f j) d:=by
 cases h with
 | pure h=>cases h
 | pp f h1 h2 h3 h4=>~⟨_,_,f,rfl,h1,h2,h3,h4⟩
theorem X5{v:Value}{s:Nat}{off len:Nat}{ob:Ob}(h:Rep m v (.own s off len))(ho:Holds m s ob) :
    ∃ e,m.σ s=some (some e)/\e.esz=ob.esz/\e.mu=!ob.frz /\
      ((∃ g cap,e.blk=some (g,cap)/\v = .slice (some ⟨g,off*ob.esz,none⟩) len (cap-off)/\off+len<=cap/\Row m ob g cap) \/
       (e.blk=none/\v = .slice none 0 0/\off=0/\len=0/\ob.els=[]/\0<ob.esz)):=by
  ð⟨e,h1,h2,h3,h4⟩:=ho
  &⟨e,h1,h2,h3,?_⟩
  cases h with
  | pure h=>cases h
  | @own _ e' g cap _ _ k1 k2 k3 k4 =>
    rw [h1] at k1
    injection k1 with k1
    injection k1 with k1
    subst k1
    rw [k2] at h4
    ~.inl ⟨g,cap,k2,by rw [h2],k3,h4.1⟩
  | @ownNil _ e' k1 k2 =>
    rw [h1] at k1
    injection k1 with k1
    injection k1 with k1
    subst k1
    rw [k2] at h4
    ~.inr ⟨k2,rfl,rfl,rfl,h4⟩
  | @ownOld _ _ _ _ k1 =>
    rw [h1] at k1
    injection k1 with k1
    cases k1
theorem QbR{v:Value}{s:Nat}{i j:Nat}{ob:Ob}(h:Rep m v (.ptr s i j))(ho:Holds m s ob) :
  ∃ e g cap,m.σ s=some (some e)/\e.esz=ob.esz/\e.mu=!ob.frz/\e.blk=some (g,cap)/\v = .pointer (some ⟨g,i*ob.esz+j,none⟩)/\Row m ob g cap:=by
 ð⟨e,h1,h2,h3,h4⟩:=ho
 cases h with
 | pure h=>cases h
 | @ptr _ e' g cap _ _ k1 k2 =>
  rw [h1] at k1
  injection k1 with k1
  injection k1 with k1
  subst k1
  rw [k2] at h4
  ~⟨e,g,cap,h1,h2,h3,k2,by rw [h2],h4.1⟩
 | @ptrOld _ _ _ _ k1 =>
  rw [h1] at k1
  injection k1 with k1
  cases k1
theorem add_lit{b o n:Nat}:(⟨b,o,none⟩:Addr).add n=⟨b,o+n,none⟩:=by
 unfold Addr.add
 by_cases h:n=0 <;> simp [h]
theorem QgN.rep{arr:Bool}{v:Value}{d:DV}(h:QgN m arr v d):Rep m v d:=by
 ð⟨_,h⟩:=h
 cases arr
 ·~h
 ·~.pure h
theorem QdQ{w:World}{no:Nat->Prop}{v:Value}{d:DV}(h:PRep w no v d):v.oneCell'=true:=by
 cases h with
 | lit v h=>~h
 | nil=>rfl
 | sl=>rfl
def QdG(m:Mem)(b o:Nat)(cs:List DV):Prop:=∀ (j:Nat) d,cs[j]?=some d->∃ u,m.w.cell? ⟨b,o+j,none⟩=some u/\Rep m u d
theorem QdG.drop{b o k:Nat}{cs:List DV}(h:QdG m b o cs):QdG m b (o+k) (cs.drop k):=λj d hd=>by
 rw [W2] at hd
 have:=h (k+j) d hd
 rw [<- Vf] at this
 ~this
theorem Row.cellsAt{ob:Ob}{g cap:Nat}(r:Row m ob g cap){i:Nat}{x:List DV}(hx:ob.els[i]?=some x):QdG m g (i*ob.esz) x:=λj d hd=>by
 ð⟨cur,T,h1,h2,h3⟩:=r.cells
 ð⟨u,hu,hr⟩:=h3 i x j d hx hd
 ~⟨u,by rw [cell_of_row m.w g _ cur T (0,0) h1];~hu,hr.rep⟩
theorem Rep.pp_cells{v:Value}{xs:List DV}(h:Rep m v (.pp xs)):∃ b off,v = .pointer (some ⟨b,off,none⟩)/\QdG m b off xs:=by
 ð⟨b,off,f,rfl,h1,h2,h3,h4⟩:=h.pp_inv
 ~⟨b,off,rfl,λj d hd=>⟨f j,h3 j d hd,.pure (h4 j d hd)⟩⟩
theorem Rep.pp_drop{v:Value}{xs:List DV}(h:Rep m v (.pp xs))(k:Nat):∃ b off,v = .pointer (some ⟨b,off,none⟩)/\Rep m (.pointer (some ⟨b,off+k,none⟩)) (.pp (xs.drop k)):=by
 ð⟨b,off,f,rfl,h1,h2,h3,h4⟩:=h.pp_inv
 &⟨b,off,rfl,.pp (λj=>f (k+j)) h1 h2 (λj d hd=>?_) (λj d hd=>?_)⟩
 ·rw [W2] at hd
  rw [Vf]
  ~h3 _ d hd
 ·rw [W2] at hd
  ~h4 _ d hd
theorem PRep.sl_inv{w:World}{no:Nat->Prop}{v:Value}{xs:List (List DV)}(h:PRep w no v (.sl xs)):∃ ad cap,v = .slice ad xs.length cap/\xs.length<=cap/\cap<=maxLen /\
  (xs≠[]->∃ b off sz,∃ f:Nat->Nat->Value,ad=some ⟨b,off,none⟩/\0<sz/\¬ no b/\b<w.heap.size/\(∀ (i:Nat) x,xs[i]?=some x->x.length=sz) /\
   (∀ (i:Nat) x (j:Nat) d,xs[i]?=some x->x[j]?=some d->w.cell? ⟨b,off+i*sz+j,none⟩=some (f i j))/\(∀ (i:Nat) x (j:Nat) d,xs[i]?=some x->x[j]?=some d->PRep w no (f i j) d)):=by
 cases h with
 | nil ad cap h=>~⟨ad,cap,rfl,WT _,h,λh=>absurd rfl h⟩
 | sl b off cap sz xs f h1 h2 h3 h4 h5 h6 h7 h8 h9=>~⟨_,cap,rfl,h3,h4,λ_=>⟨b,off,sz,f,rfl,h1,h5,h6,h7,h8,h9⟩⟩
variable{P:Program}
theorem ty_agg{t:Nat}{d:TyD}(h:QF P t d)(w:World):(isAgg t).run P w = .ok d.agg w:=by
 have hk:=h.kind
 unfold TyD.agg
 ð⟨k,size,bytes,zero⟩:=d
 cases k <;> dsimp only at hk ⊢
 case struct fs =>
  ð⟨fields,hu,_⟩:=hk
  simp [isAgg,run_underlying hu]
 case other =>
  ð⟨u,hu,hx⟩:=hk
  cases u <;> first | (~hx.elim) | (simp [isAgg,run_underlying hu])
 all_goals simp [isAgg,run_underlying hk]
theorem QfK{t:Nat}{d:TyD}(h:QF P t d)(w:World):(sizeOf t).run P w = .ok d.size w:=by
 have hi:=h.info
 cases hh:P.info? t with
 | none=>rw [hh] at hi;cases hi
 | some i =>
  rw [hh] at hi
  simp only [Wu,Wx,Uh] at hi
  simp [sizeOf,typeInfo,hh,hi.1]
def ldD(d:TyD)(cells:List DV):Option DV :=
 if d.agg then (if d.size<=cells.length then some (.agg (cells.take d.size)) else none) else (if d.size=1 then cells.head? else none)
def Qbe(d:TyD)(x:DV):Option (List DV) :=
 if d.agg then (match x with | .agg cs=>if cs.length=d.size then some cs else none | _=>none) else (if d.size=1 then some [x] else none)
theorem load_ok{t:Nat}{d:TyD}(ht:QF P t d){b o:Nat}{cs:List DV}(hc:QdG m b o cs){y:DV}(hy:ldD d cs=some y) :
  ∃ v,(Instr.loadAt t (.pointer (some ⟨b,o,none⟩))).run P m.w = .ok v m.w/\Rep m v y:=by
 unfold ldD at hy
 by_cases ha:d.agg=true
 ·rw [if_pos ha] at hy
  by_cases hl:d.size<=cs.length
  ·rw [if_pos hl] at hy
   injection hy with hy
   subst hy
   have hex:∀ j,j<d.size->∃ u,m.w.cell? ⟨b,o+j,none⟩=some u/\∀ e,cs[j]?=some e->Rep m u e:=λj hj=>by
    ð⟨u,h1,h2⟩:=hc j cs[j] (Wa Oo)
    &⟨u,h1,λe he=>?_⟩
    rw [Wa Oo] at he
    injection he with he
    ~he▸h2
   let f:Nat->Value:=λj=>if h:j<d.size then Classical.choose (hex j h) else undef
   have hf:∀ j (h:j<d.size),m.w.cell? ⟨b,o+j,none⟩=some (f j)/\∀ e,cs[j]?=some e->Rep m (f j) e:=λj h=>by
    simp only [f,h,dif_pos]
    ~Classical.choose_spec (hex j h)
   &⟨.agg ((List.range d.size).map f).toArray,?_,?_⟩
   ·have hrun:=run_loadCells_list (P:=P) m.w ⟨b,o,none⟩ ((List.range d.size).map f) (λj v hv=>by
     rw [add_lit]
     simp only [Wh] at hv
     have hj:j<d.size:=by
      rcases Ws j d.size with h' | h'
      ·~h'
      ·rw [Wg (by simpa using h')] at hv;cases hv
     rw [VB hj] at hv
     injection hv with hv
     rw [<- hv]
     ~(hf j hj).1)
    rw [Wb,WV] at hrun
    simp [Instr.loadAt,Instr.sureAddr,loadVar,ty_agg ht,ha,QfK ht,hrun]
   ·&.agg (by simp;omega) λi v e hv he=>?_
    rw [Wh] at hv
    have hj:i<d.size:=by
     rcases Ws i d.size with h' | h'
     ·~h'
     ·rw [Wg (by simpa using h')] at hv;cases hv
    rw [VB hj] at hv
    injection hv with hv
    rw [Uy hj] at he
    rw [<- hv]
    ~(hf i hj).2 e he
  ·rw [if_neg hl] at hy;cases hy
 ·rw [if_neg ha] at hy
  by_cases h1:d.size=1
  ·rw [if_pos h1] at hy
   ð⟨u,h2,h3⟩:=hc 0 y (by rw [<- hy];cases cs <;> rfl)
   &⟨u,?_,h3⟩
   rw [VW] at h2
   have ha':d.agg=false:=by simpa using ha
   simp [Instr.loadAt,Instr.sureAddr,loadVar,ty_agg ht,ha',load,Sem.run,h2]
  ·rw [if_neg h1] at hy;cases hy
theorem Qel{α:Type}(l vs:List α)(o:Nat)(h:o+vs.length<=l.length)(p:Nat) :
  (l.take o++vs++l.drop (o+vs.length))[p]?=if p<o then l[p]? else if p<o+vs.length then vs[p-o]? else l[p]?:=by
 by_cases h1:p<o
 ·rw [if_pos h1,WP,WM (by simp;omega),Uy h1]
 ·rw [if_neg h1]
  have hlo:(l.take o).length=o:=by simp;omega
  by_cases h2:p<o+vs.length
  ·rw [if_pos h2,WM (by simp;omega),WO Oo,hlo]
  ·rw [if_neg h2,WO (by simp;omega),W2]
   congr 1
   simp
   omega
inductive Box1(sto:Sto):DV->List Nat->Prop
 | lit {v:Value}:Box1 sto (.lit v) []
 | sl {xs:List (List DV)}:Box1 sto (.sl xs) []
 | own {s off len:Nat} {ob:Ob}:sto.get s=some ob->Box1 sto (.own s off len) [s]
 | ptr {s i j:Nat} {ob:Ob}:sto.get s=some ob->Box1 sto (.ptr s i j) [s]
 | fn {f:FuncId} {xs:List DV}:Box1 sto (.fn f xs) []
inductive Box(sto:Sto):List DV->List Nat->Prop
 | nil:Box sto [] []
 | cons {d:DV} {l:List DV} {r r':List Nat}:Box1 sto d r->Box sto l r'->Box sto (d :: l) (r++r')
def QU(m:Mem)(sto:Sto)(rs:List Nat):Prop:=∀ s∈rs,∀ ob,sto.get s=some ob->Holds m s ob
theorem box1_one{sto:Sto}{c:DV}{r:List Nat}(h:Box1 sto c r)(hs:QU m sto r){u:Value}(hr:Rep m u c):u.oneCell'=true:=by
 cases h with
 | lit=>rw [hr.lit_inv];~hr.lit_one
 | sl=>~QdQ hr.sl_inv
 | own h =>
  ð⟨_,_,_,_,h⟩:=X5 hr (hs _ Os _ h)
  rcases h with ⟨g,cap,_,rfl,_⟩ | ⟨_,rfl,_⟩ <;> rfl
 | ptr h =>
  ð⟨_,_,_,_,_,_,_,rfl,_⟩:=QbR hr (hs _ Os _ h)
  rfl
 | fn=>ð⟨vs,rfl,_⟩:=hr.fn_inv;rfl
theorem box_one{sto:Sto}{cs:List DV}{r:List Nat}(h:Box sto cs r)(hs:QU m sto r) :
  ∀ (i:Nat) c u,cs[i]?=some c->Rep m u c->u.oneCell'=true:=by
 induction h with
 | nil=>intro i c u hc;simp at hc
 | cons h1 h2 ih =>
  intro i c u hc hr
  cases i with
  | zero =>
   simp at hc
   subst hc
   ~box1_one h1 (λs hs'=>hs s (Wf _ hs')) hr
  | succ i=>~ih (λs hs'=>hs s (Wj _ hs')) i c u (by simpa using hc) hr
def box1F(sto:Sto):DV->Option (List Nat)
 | .lit _=>some []
 | .sl _=>some []
 | .own s _ _=>match sto.get s with | some _=>some [s] | none=>none
 | .ptr s _ _=>match sto.get s with | some _=>some [s] | none=>none
 | .fn _ _=>some []
 | _=>none
def boxF(sto:Sto):List DV->Option (List Nat)
 | []=>some []
 | d :: l=>match box1F sto d,boxF sto l with | some a,some b=>some (a++b) | _,_=>none
theorem box1F_ok{sto:Sto}{d:DV}{r:List Nat}(h:box1F sto d=some r):Box1 sto d r:=by
 unfold box1F at h
 split at h
 ·injection h with h;subst h;~.lit
 ·injection h with h;subst h;~.sl
 ·split at h
  ·injection h with h;subst h;~.own ‹_›
  ·cases h
 ·split at h
  ·injection h with h;subst h;~.ptr ‹_›
  ·cases h
 ·injection h with h;subst h;~.fn
 ·cases h
theorem Qex{sto:Sto}{l:List DV}{r:List Nat}(h:boxF sto l=some r):Box sto l r:=by
 induction l generalizing r with
 | nil=>injection h with h;subst h;~.nil
 | cons d l ih =>
  unfold boxF at h
  split at h
  ·injection h with h;subst h;~.cons (box1F_ok ‹_›) (ih ‹_›)
  ·cases h
theorem Qgn{d:TyD}{v:Value}{x:DV}(hr:Rep m v x){cs:List DV}(hc:Qbe d x=some cs)(h1:∀ (i:Nat) c u,cs[i]?=some c->Rep m u c->u.oneCell'=true) :
  ∃ vs:List Value,v.cells=vs.toArray/\vs.length=d.size/\cs.length=d.size/\(∀ u∈vs,u.oneCell'=true)/\∀ (i:Nat) u c,vs[i]?=some u->cs[i]?=some c->Rep m u c:=by
 unfold Qbe at hc
 by_cases ha:d.agg=true
 ·rw [if_pos ha] at hc
  cases x with
  | agg xs =>
   dsimp only at hc
   by_cases hl:xs.length=d.size
   ·rw [if_pos hl] at hc
    injection hc with hc
    subst hc
    ð⟨vs,rfl,k1,k2⟩:=hr.agg_inv
    &⟨vs,rfl,Oo,hl,λu hu=>?_,k2⟩
    ð⟨i,hi⟩:=Vd.1 hu
    have hlt:i<vs.length:=by
     rcases Ws i vs.length with h' | h'
     ·~h'
     ·rw [Wg h'] at hi;cases hi
    ~h1 i (xs[i]' Oo) u (Wa Oo) (k2 i u _ hi (Wa Oo))
   ·rw [if_neg hl] at hc;cases hc
  | _=>cases hc
 ·rw [if_neg ha] at hc
  by_cases hl:d.size=1
  ·rw [if_pos hl] at hc
   injection hc with hc
   subst hc
   have ho:=h1 0 x v rfl hr
   &⟨[v],?_,by simp [hl],by simp [hl],λu hu=>by rw [Wo.1 hu];~ho,λi u c hu hc=>?_⟩
   ·cases v <;> first | rfl | (simp [Value.oneCell'] at ho)
   ·cases i with
    | zero=>simp at hu hc;subst hu;subst hc;~hr
    | succ i=>simp at hu
  ·rw [if_neg hl] at hc;cases hc
theorem store_run{t:Nat}{d:TyD}(ht:QF P t d){v:Value}{vs:List Value}(hv:v.cells=vs.toArray)(hl:vs.length=d.size)(h1:∀ u∈vs,u.oneCell'=true)
  {g o T:Nat}{cur:Array Value}(hg:m.w.heap[g]?=some (.cells cur T (0,0)))(hfit:o+vs.length<=cur.size) :
  (Instr.storeAt t (.pointer (some ⟨g,o,none⟩)) v).run P m.w = .ok () (m.w.setRow g (cur.toList.take o++vs++cur.toList.drop (o+vs.length)).toArray):=by
 have hst:=run_storeCells_at P g o T vs 0 cur m.w hg (by simpa using hfit) h1
 simp only [VW] at hst
 simp [Instr.storeAt,Instr.sureAddr,storeVar,hv,QfK ht,hl,hst]
def setCells{α:Type}(x:List α)(j:Nat):List α->List α
 | []=>x
 | c :: cs=>setCells (x.set j c) (j+1) cs
theorem JE{α:Type}(cs y:List α)(j:Nat):(setCells y j cs).length=y.length:=by
 induction cs generalizing y j with
 | nil=>rfl
 | cons c cs ih=>simp [setCells,ih]
theorem Qba{α:Type}(cs y:List α)(j:Nat)(h:j+cs.length<=y.length)(p:Nat):(setCells y j cs)[p]?=if p<j then y[p]? else if p<j+cs.length then cs[p-j]? else y[p]?:=by
 induction cs generalizing y j with
 | nil=>simp only [setCells,VH,VW];split <;> rfl
 | cons c cs ih =>
  simp only [WX] at h ⊢
  rw [setCells,ih _ _ (by simp;omega)]
  by_cases h1:p<j
  ·rw [if_pos Oo,if_pos h1,WC Oo]
  ·rw [if_neg h1]
   by_cases h2:p=j
   ·subst h2
    rw [if_pos Oo,if_pos Oo,WD Oo,Ui]
    rfl
   ·rw [if_neg Oo]
    by_cases h3:p<j+1+cs.length
    ·rw [if_pos h3,if_pos Oo,show p-j=(p-(j+1))+1 by omega,V5]
    ·rw [if_neg h3,if_neg Oo,WC Oo]
theorem Row.set{m':Mem}{ob:Ob}{g cap:Nat}(r:Row m ob g cap){cur:Array Value}{T:Nat}(hcur:m.w.heap[g]?=some (.cells cur T (0,0)))(he:Ext m m'){i j:Nat}{y cs:List DV}(hy:ob.els[i]?=some y)(hj:j+cs.length<=y.length)
  {vs:List Value}(hl:vs.length=cs.length)(hr:∀ (k:Nat) u c,vs[k]?=some u->cs[k]?=some c->QgN m' ob.arr u c)
  (hg:m'.w.heap[g]?=some (.cells (cur.toList.take (i*ob.esz+j)++vs++cur.toList.drop (i*ob.esz+j+vs.length)).toArray T (0,0))) :
  i*ob.esz+j+vs.length<=cur.size/\Row m' { ob with els:=ob.els.set i (setCells y j cs) } g cap:=by
 ð⟨cur',T',k1,k2,k3⟩:=r.cells
 rw [hcur] at k1
 injection k1 with k1
 injection k1 with k1
 subst k1
 have hi:i<ob.els.length:=by
  rcases Ws i ob.els.length with h' | h'
  ·~h'
  ·rw [Wg h'] at hy;cases hy
 have hyl:=r.sz i y hy
 have hfit:i*ob.esz+j+vs.length<=cur.size:=by
  have:(i+1)*ob.esz<=cap*ob.esz:=WB _ (by have:=r.len;omega)
  rw [Vq] at this
  omega
 &⟨hfit,⟨⟨_,T,hg,?_,?_⟩,by simpa using r.len,r.max,r.pos,?_⟩⟩
 ·simp only [Vn,We,Wi,Ww,WG]
  omega
 ·dsimp only
  intro i' x j' d hx hd
  have hget:∀ p,(cur.toList.take (i*ob.esz+j)++vs++cur.toList.drop (i*ob.esz+j+vs.length)).toArray[p]? =
    if p<i*ob.esz+j then cur[p]? else if p<i*ob.esz+j+vs.length then vs[p-(i*ob.esz+j)]? else cur[p]?:=λp=>by
   have:=Qel cur.toList vs (i*ob.esz+j) (by simpa using hfit) p
   simpa using this
  rw [hget]
  by_cases hii:i'=i
  ·subst hii
   rw [WD hi] at hx
   injection hx with hx
   subst hx
   rw [Qba cs y j hj j'] at hd
   by_cases c1:j' < j
   ·rw [if_pos c1] at hd
    rw [if_pos Oo]
    ð⟨u,h1,h2⟩:=k3 i' y j' d hy hd
    ~⟨u,h1,h2.ext he⟩
   ·rw [if_neg c1] at hd
    rw [if_neg Oo]
    by_cases c2:j' < j+cs.length
    ·rw [if_pos c2] at hd
     rw [if_pos Oo]
     have e1:i' * ob.esz+j' - (i' * ob.esz+j)=j' - j:=by omega
     rw [e1]
     ~⟨vs[j' - j]' Oo,Wa Oo,hr (j' - j) _ d (Wa Oo) hd⟩
    ·rw [if_neg c2] at hd
     rw [if_neg Oo]
     ð⟨u,h1,h2⟩:=k3 i' y j' d hy hd
     ~⟨u,h1,h2.ext he⟩
  ·rw [WC (Ne.symm hii)] at hx
   ð⟨u,h1,h2⟩:=k3 i' x j' d hx hd
   have hxl:=r.sz i' x hx
   have hj':j' < ob.esz:=by
    rcases Ws j' x.length with h' | h'
    ·omega
    ·rw [Wg h'] at hd;cases hd
   &⟨u,?_,h2.ext he⟩
   rcases U5 hii with hlt | hgt
   ·have:(i'+1)*ob.esz<=i*ob.esz:=WB _ hlt
    rw [Vq] at this
    rw [if_pos Oo]
    ~h1
   ·have:(i+1)*ob.esz<=i' * ob.esz:=WB _ hgt
    rw [Vq] at this
    rw [if_neg Oo,if_neg Oo]
    ~h1
 ·dsimp only
  intro i' x hx
  by_cases hii:i'=i
  ·subst hii
   rw [WD hi] at hx
   injection hx with hx
   subst hx
   rw [JE,hyl]
  ·rw [WC (Ne.symm hii)] at hx
   ~r.sz i' x hx
theorem Row.block_lt{ob:Ob}{g cap:Nat}(r:Row m ob g cap):g<m.w.heap.size:=by
 ð⟨cur,T,h,_⟩:=r.cells
 ~(Vz.1 h).1
theorem QbS{no:Nat->Prop}{ob:Ob}{g cap off len:Nat}(r:Row m ob g cap)(ha:ob.arr=true)(hno:¬ no g)(hsub:∀ k,no k->m.no k)(hl:off+len<=ob.els.length) :
  PRep m.w no (.slice (some ⟨g,off*ob.esz,none⟩) len (cap-off)) (.sl ((ob.els.drop off).take len)):=by
 have hcap:=r.len
 have hmax:=r.max
 have hxl:((ob.els.drop off).take len).length=len:=by simp;omega
 by_cases h0:len=0
 ·subst h0
  rw [Y4]
  ~.nil _ _ Oo
 ·ð⟨cur,T,h1,h2,h3⟩:=r.cells
  have hget:∀ (i:Nat) x,((ob.els.drop off).take len)[i]?=some x->ob.els[off+i]?=some x:=λi x hx=>by
   rw [WL] at hx
   split at hx
   ·rwa [W2] at hx
   ·cases hx
  have key:=PRep.sl (w:=m.w) (no:=no) g (off*ob.esz) (cap-off) ob.esz ((ob.els.drop off).take len) (λi j=>cur.getD ((off+i)*ob.esz+j) undef) r.pos Oo Oo Oo hno r.block_lt
   (λi x hx=>r.sz _ x (hget i x hx))
   (λi x j d hx hd=>by
    ð⟨u,hu,_⟩:=h3 _ x j d (hget i x hx) hd
    rw [cell_of_row m.w g _ cur T (0,0) h1,show off*ob.esz+i*ob.esz+j=(off+i)*ob.esz+j by rw [Vv],hu,Vr,hu]
    rfl)
   (λi x j d hx hd=>by
    ð⟨u,hu,hr⟩:=h3 _ x j d (hget i x hx) hd
    rw [Vr,hu]
    have:=hr.2
    rw [ha] at this
    ~PRep.ext (Wl _) (λk _ hk=>⟨rfl,λh=>hk (hsub k h)⟩) this)
  rwa [hxl] at key
def undp:DV->DV
 | .dp _ l=>.sl l
 | d=>d
def dpB:DV->Bool
 | .lit _=>true
 | .sl _=>true
 | .dp _ _=>true
 | _=>false
theorem prep_of_deep{no:Nat->Prop}{ob:Ob}{inn:Nat->Prop}{g cap:Nat}(r:Row m ob g cap)(dd:Deep m inn ob g)(ha:ob.arr=false)(hno:¬ no g)(hni:∀ b,inn b->¬ no b)(hsub:∀ k,no k->m.no k)(hd:∀ x∈ob.els,∀ d∈x,dpB d=true) :
  PRep m.w no (.slice (some ⟨g,0,none⟩) ob.els.length cap) (.sl (ob.els.map (·.map undp))):=by
 have hcap:=r.len
 have hmax:=r.max
 by_cases h0:ob.els=[]
 ·rw [h0];~.nil _ _ Oo
 ·ð⟨cur,T,h1,h2,h3⟩:=r.cells
  ð⟨B,d1,d2⟩:=dd
  have hpos:0<ob.els.length:=Yt.2 h0
  have get:∀ (i:Nat) x (j:Nat) d,(ob.els.map (·.map undp))[i]?=some x->x[j]?=some d->∃ x0 d0,ob.els[i]?=some x0/\x0[j]?=some d0/\d=undp d0:=λi x j d hx hd=>by
   rw [Wh] at hx
   cases hq:ob.els[i]? with
   | none=>rw [hq] at hx;cases hx
   | some x0 =>
    rw [hq] at hx
    injection hx with hx
    subst hx
    rw [Wh] at hd
    cases hq2:x0[j]? with
    | none=>rw [hq2] at hd;cases hd
    | some d0=>rw [hq2] at hd;injection hd with hd;~⟨x0,d0,rfl,hq2,hd.symm⟩
  have key:=PRep.sl (w:=m.w) (no:=no) g 0 cap ob.esz (ob.els.map (·.map undp)) (λi j=>cur.getD (i*ob.esz+j) undef) r.pos (by simpa using hpos) (by simpa using hcap) Oo hno r.block_lt
   (λi x hx=>by
    rw [Wh] at hx
    cases hq:ob.els[i]? with
    | none=>rw [hq] at hx;cases hx
    | some x0=>rw [hq] at hx;injection hx with hx;subst hx;rw [Wb];~r.sz i x0 hq)
   (λi x j d hx hd=>by
    ð⟨x0,d0,e1,e2,_⟩:=get i x j d hx hd
    ð⟨u,hu,_⟩:=h3 i x0 j d0 e1 e2
    rw [cell_of_row m.w g _ cur T (0,0) h1,WS,hu,Vr,hu]
    rfl)
   (λi x j d hx hdd=>by
    ð⟨x0,d0,e1,e2,rfl⟩:=get i x j d hx hdd
    ð⟨u,hu,hr⟩:=h3 i x0 j d0 e1 e2
    rw [Vr,hu,WE]
    have hr2:=hr.2
    rw [ha] at hr2
    have hp:∀ {v d},PRep m.w m.no v d->PRep m.w no v d:=λh=>PRep.ext (Wl _) (λk _ hk=>⟨rfl,λh=>hk (hsub k h)⟩) h
    have hb:=hd x0 (Wp e1) d0 (Wp e2)
    have hr2:Rep m u d0:=hr2
    cases d0 with
    | lit v=>rw [hr2.lit_inv];~.lit v hr2.lit_one
    | sl xs=>~hp hr2.sl_inv
    | dp z l =>
     ð⟨u',k1,k2⟩:=d1 i x0 j z l e1 e2
     rw [cell_of_row m.w g _ cur T (0,0) h1,hu] at k1
     injection k1 with k1
     subst k1
     cases hB:B i j with
     | none =>
      rw [hB] at k2
      ð⟨rfl,rfl,_⟩:=k2
      ~.nil _ _ (WT _)
     | some b =>
      rw [hB] at k2
      ð⟨q1,cp,rfl,q3⟩:=k2
      have:=QbS (off:=0) (len:=l.length) q3 rfl (hni b q1) hsub Os
      simpa [undp] using this
    | _=>cases hb)
  rwa [Wb] at key
end
def cellC:Value->DV
 | .agg _=>.any
 | .tuple _=>.any
 | v=>.lit v
def constD:Value->DV
 | .agg cs=>.agg (cs.toList.map cellC)
 | .tuple cs=>.tup (cs.toList.map cellC)
 | v=>.lit v
def opd(env:Env):Operand->DV
 | .tmp t=>env.get t
 | .const v=>constD v
 | .func f=>.lit (.func (.func f) #[] #[])
 | .global _=>.any
structure Out where
 d:DV
 us:List (Nat×Option Ob)
 rs:List Nat
 n:Nat
def Upd(m:Mem)(p:Nat×Option Ob):Prop:=match p.2 with
 | some ob=>Holds m p.1 ob
 | none=>m.σ p.1=some none
def Ran(P:Program)(F:Fm)(o:Oper)(a:Act)(m:Mem)(d:DV)(us:List (Nat×Option Ob)):Prop :=
 ∃ v m',((execOp a.eval o).run P m.w = .ok (.value v) m'.w\/((execOp a.eval o).run P m.w = .ok .skip m'.w/\v=undef)) /\
  Inv F m'/\Loc (us.map (·.1)) m m'/\Rep m' v d/\∀ p∈us,Upd m' p
def OpsRep(m:Mem)(a:Act)(env:Env)(o:Oper):Prop:=∀ x∈o.op.operands,Rep m (a.eval x) (opd env x)
def Fresh(m:Mem)(nxt n:Nat):Prop:=∀ s,nxt<=s->s<nxt+n->m.σ s=none
def Qv(P:Program)(o:Oper)(env:Env)(sto:Sto)(nxt:Nat)(out:Out):Prop :=
 ∀ (F:Fm) (m:Mem) (a:Act),Inv F m->OpsRep m a env o->QU m sto out.rs->Fresh m nxt out.n ->
  ∀ (K:Act->World->Prop) (Q:Exit->Act->World->Prop),(∀ v m',Inv F m'->Loc (out.us.map (·.1)) m m'->Rep m' v out.d->(∀ p∈out.us,Upd m' p)->K (a.put o.dst v) m'.w)->Oper.wp P o a m.w K Q
theorem Ran.wp{P:Program}{F:Fm}{o:Oper}{a:Act}{m:Mem}{d:DV}{us:List (Nat×Option Ob)}(h:Ran P F o a m d us){K:Act->World->Prop}{Q:Exit->Act->World->Prop}
  (hK:∀ v m',Inv F m'->Loc (us.map (·.1)) m m'->Rep m' v d->(∀ p∈us,Upd m' p)->K (a.put o.dst v) m'.w):Oper.wp P o a m.w K Q:=by
 ð⟨v,m',h1,h2,h3,h4,h5⟩:=h
 have:=hK v m' h2 h3 h4 h5
 unfold Oper.wp
 rcases h1 with h1 | ⟨h1,rfl⟩
 ·rw [h1];~this
 ·rw [h1];~this
theorem Qv.ran{P:Program}{o:Oper}{env:Env}{sto:Sto}{nxt:Nat}{out:Out}
  (h:∀ (F:Fm) (m:Mem) (a:Act),Inv F m->OpsRep m a env o->QU m sto out.rs->Fresh m nxt out.n->Ran P F o a m out.d out.us):Qv P o env sto nxt out :=
 λF m a h1 h2 h3 h4 _ _ hK=>(h F m a h1 h2 h3 h4).wp hK
section
variable{P:Program}{F:Fm}{m:Mem}{a:Act}{env:Env}{sto:Sto}{nxt:Nat}{d:DV}{us:List (Nat×Option Ob)}{o:Oper}
theorem Ran.val(hI:Inv F m){v:Value}(h:(execOp a.eval o).run P m.w = .ok (.value v) m.w)(hr:Rep m v d):Ran P F o a m d [] :=
 ⟨v,m,.inl h,hI,Loc.refl _ _,hr,λp hp=>by cases hp⟩
theorem constD_rep(v:Value):Rep m v (constD v):=by
 have hc:∀ cs:Array Value,∀ (i:Nat) v d,cs.toList[i]?=some v->(cs.toList.map cellC)[i]?=some d->Rep m v d:=λcs i v d hv hd=>by
  rw [Wh,hv] at hd
  injection hd with hd
  subst hd
  cases v <;> first | ~.any _ | ~.pure (.lit _ rfl)
 unfold constD
 split
 ·rename_i cs
  have:=Rep.agg (m:=m) (vs:=cs.toList) (xs:=cs.toList.map cellC) Os (hc cs)
  simpa using this
 ·rename_i cs
  have:=Rep.tup (m:=m) (vs:=cs.toList) (xs:=cs.toList.map cellC) Os (hc cs)
  simpa using this
 ·cases v <;> first | ~.pure (.lit _ rfl) | (exfalso;rename_i h1 h2;first | ~h1 _ rfl | ~h2 _ rfl)
theorem opd_rep{x:Operand}(h:∀ t,x = .tmp t->Rep m (a.tmps.getD t undef) (env.get t)):Rep m (a.eval x) (opd env x):=by
 cases x with
 | tmp t=>~h t rfl
 | const v=>~constD_rep v
 | global g=>~.any _
 | func f=>~.pure (.lit _ rfl)
theorem r_move{x:Operand}(ho:o.op = .move x):Qv P o env sto nxt ⟨opd env x,[],[],0⟩:=.ran λF m a hI hE _ _ =>
 Ran.val hI (v:=a.eval x) (by simp [execOp,ho]) (hE x (by simp [ho,Op.operands]))
theorem r_assign{x:Operand}(ho:o.op = .assign x):Qv P o env sto nxt ⟨opd env x,[],[],0⟩:=.ran λF m a hI hE _ _ =>
 Ran.val hI (v:=a.eval x) (by simp [execOp,ho]) (hE x (by simp [ho,Op.operands]))
theorem r_pick{c x y:Operand}{t:Bool}(ho:o.op = .pick c x y)(hc:opd env c = .lit (.bool t)):Qv P o env sto nxt ⟨if t then opd env x else opd env y,[],[],0⟩:=.ran λF m a hI hE _ _=>by
 have h1:=hE c (by simp [ho,Op.operands])
 rw [hc] at h1
 have h2:=hE x (by simp [ho,Op.operands])
 have h3:=hE y (by simp [ho,Op.operands])
 &Ran.val hI (v:=if t then a.eval x else a.eval y) (by simp [execOp,ho,h1.lit_inv,asBool]) ?_
 cases t
 ·~h3
 ·~h2
theorem r_extract{x:Operand}{i:Nat}{xs:List DV}{d:DV}(ho:o.op = .extract x i)(hx:opd env x = .tup xs)(hi:xs[i]?=some d):Qv P o env sto nxt ⟨d,[],[],0⟩:=.ran λF m a hI hE _ _=>by
 have h1:=hE x (by simp [ho,Op.operands])
 rw [hx] at h1
 ð⟨vs,h2,h3,h4⟩:=h1.tup_inv
 have hlt:i<vs.length:=by
  rcases Ws i xs.length with h' | h'
  ·omega
  ·rw [Wg h'] at hi;cases hi
 &Ran.val hI (v:=vs[i]) ?_ (h4 i _ d (Wa hlt) hi)
 simp [execOp,ho,h2,Instr.extract,hlt]
def Z8(op:BinOp)(k:IntKind)(a b:Int):Option Value :=
 match op with
 | .add=>some (.int k (k.wrap (a+b)))
 | .sub=>some (.int k (k.wrap (a-b)))
 | .mul=>some (.int k (k.wrap (a*b)))
 | .quo=>if b=0 then none else some (.int k (k.wrap (a.tdiv b)))
 | .rem=>if b=0 then none else some (.int k (a.tmod b))
 | .and=>some (.int k (k.wrap (BitVec.ofInt k.bits a &&& BitVec.ofInt k.bits b).toNat))
 | .or=>some (.int k (k.wrap (BitVec.ofInt k.bits a ||| BitVec.ofInt k.bits b).toNat))
 | .xor=>some (.int k (k.wrap (BitVec.ofInt k.bits a ^^^ BitVec.ofInt k.bits b).toNat))
 | .andNot=>some (.int k (k.wrap (BitVec.ofInt k.bits a &&& ~~~BitVec.ofInt k.bits b).toNat))
 | .eql=>some (.bool (a == b))
 | .neq=>some (.bool (a != b))
 | .lss=>some (.bool (decide (a<b)))
 | .leq=>some (.bool (decide (a<=b)))
 | .gtr=>some (.bool (decide (b<a)))
 | .geq=>some (.bool (decide (b<=a)))
 | _=>none
def Z1(op:BinOp)(k:IntKind)(a b:Int):Option Value :=
 if b<0 then none else
 match op with
 | .shl=>some (.int k (k.wrap (a*2^min b.toNat k.bits)))
 | .shr=>some (.int k (a.fdiv (2^min b.toNat k.bits)))
 | _=>none
theorem int_run{op:BinOp}{k:IntKind}{x y:Int}{r:Value}(h:Z8 op k x y=some r)(t:Nat)(p q:Operand)(w:World) :
  (do eqGuard op t p q (.int k x) (.int k y);binOp op t (.int k x) (.int k y):Sem Value).run P w = .ok r w:=by
 unfold Z8 at h
 cases op <;> dsimp only at h
 case quo =>
  by_cases hb:y=0
  ·rw [if_pos hb] at h;cases h
  ·rw [if_neg hb] at h;injection h with h;subst h;simp [eqGuard,binOp,Op.intDiv,hb]
 case rem =>
  by_cases hb:y=0
  ·rw [if_pos hb] at h;cases h
  ·rw [if_neg hb] at h;injection h with h;subst h;simp [eqGuard,binOp,Op.intDiv,hb]
 all_goals first
  | (cases h;done)
  | (injection h with h;subst h;simp [eqGuard,binOp,Op.intArith,Op.intBits,Op.intCmp])
theorem shift_run{op:BinOp}{k j:IntKind}{x y:Int}{r:Value}(h:Z1 op k x y=some r)(t:Nat)(p q:Operand)(w:World) :
  (do eqGuard op t p q (.int k x) (.int j y);binOp op t (.int k x) (.int j y):Sem Value).run P w = .ok r w:=by
 unfold Z1 at h
 by_cases hb:y<0
 ·rw [if_pos hb] at h;cases h
 ·rw [if_neg hb] at h
  cases op <;> dsimp only at h <;> first
   | (cases h;done)
   | (injection h with h;subst h;simp [eqGuard,binOp,Op.shift,hb])
theorem int_one{op:BinOp}{k:IntKind}{x y:Int}{r:Value}(h:Z8 op k x y=some r):r.oneCell'=true:=by
 unfold Z8 at h
 cases op <;> dsimp only at h <;> first
  | (cases h;done)
  | (injection h with h;subst h;rfl)
  | (split at h <;> first | (cases h;done) | (injection h with h;subst h;rfl))
theorem shift_one{op:BinOp}{k:IntKind}{x y:Int}{r:Value}(h:Z1 op k x y=some r):r.oneCell'=true:=by
 unfold Z1 at h
 split at h
 ·cases h
 ·cases op <;> dsimp only at h <;> first
   | (cases h;done)
   | (injection h with h;subst h;rfl)
theorem QbQ{op:BinOp}{t:Nat}{x y:Operand}{t':Nat}{u v r:Value}(h1:r.oneCell'=true)(ho:o.op = .binOp op t x y t')(hI:Inv F m)(hu:a.eval x=u)(hv:a.eval y=v)
  (h:(do eqGuard op t x y u v;binOp op t u v:Sem Value).run P m.w = .ok r m.w):Ran P F o a m (.lit r) []:=by
 subst hu
 subst hv
 &Ran.val hI (v:=r) ?_ (.pure (.lit _ h1))
 simp only [execOp,ho]
 rw [Sem.run_bind,h]
 rfl
theorem QeT{op:BinOp}{t:Nat}{x y:Operand}{t':Nat}{k:IntKind}{p q:Int}{r:Value}(ho:o.op = .binOp op t x y t')(hx:opd env x = .lit (.int k p))(hy:opd env y = .lit (.int k q))(hr:Z8 op k p q=some r) :
  Qv P o env sto nxt ⟨.lit r,[],[],0⟩:=.ran λF m a hI hE _ _=>by
 have h1:=hE x (by simp [ho,Op.operands])
 have h2:=hE y (by simp [ho,Op.operands])
 rw [hx] at h1
 rw [hy] at h2
 ~QbQ (int_one hr) ho hI h1.lit_inv h2.lit_inv (int_run hr _ _ _ _)
theorem r_shift{op:BinOp}{t:Nat}{x y:Operand}{t':Nat}{k j:IntKind}{p q:Int}{r:Value}(ho:o.op = .binOp op t x y t')(hx:opd env x = .lit (.int k p))(hy:opd env y = .lit (.int j q))(hr:Z1 op k p q=some r) :
  Qv P o env sto nxt ⟨.lit r,[],[],0⟩:=.ran λF m a hI hE _ _=>by
 have h1:=hE x (by simp [ho,Op.operands])
 have h2:=hE y (by simp [ho,Op.operands])
 rw [hx] at h1
 rw [hy] at h2
 ~QbQ (shift_one hr) ho hI h1.lit_inv h2.lit_inv (shift_run hr _ _ _ _)
theorem Qbw{n:Int}(h:-9223372036854775808<=n/\n<=9223372036854775807):IntKind.i64.wrap n=n:=by rw [IntKind.wrap_i64];omega
theorem QaO{n:Int}(h:0<=n/\n<=18446744073709551615):IntKind.u64.wrap n=n:=by
 have:IntKind.u64.wrap n=n%18446744073709551616:=rfl
 rw [this];omega
theorem Qcb(n:Nat){t:Nat}(hk:P.underlying t=some .bool)(x y:Bool)(w:World):(Op.equalIn (n+1) t (.bool x) (.bool y)).run P w = .ok (x == y) w:=by
 simp [Op.equalIn,run_underlying hk]
theorem r_eqB{t:Nat}{x y:Operand}{t':Nat}{p q:Bool}{td:TyD}(ho:o.op = .binOp .eql t x y t')(ht:QF P t td)(hk:td.k = .bool)(hx:opd env x = .lit (.bool p))(hy:opd env y = .lit (.bool q)) :
  Qv P o env sto nxt ⟨.lit (.bool (p == q)),[],[],0⟩:=.ran λF m a hI hE _ _=>by
 have h1:=hE x (by simp [ho,Op.operands])
 have h2:=hE y (by simp [ho,Op.operands])
 rw [hx] at h1
 rw [hy] at h2
 have hu:=ht.kind
 rw [hk] at hu
 ~QbQ rfl ho hI h1.lit_inv h2.lit_inv (by simp [eqGuard,binOp,Op.equal,Op.maxDepth,Qcb 9999 hu])
theorem r_neB{t:Nat}{x y:Operand}{t':Nat}{p q:Bool}{td:TyD}(ho:o.op = .binOp .neq t x y t')(ht:QF P t td)(hk:td.k = .bool)(hx:opd env x = .lit (.bool p))(hy:opd env y = .lit (.bool q)) :
  Qv P o env sto nxt ⟨.lit (.bool (p != q)),[],[],0⟩:=.ran λF m a hI hE _ _=>by
 have h1:=hE x (by simp [ho,Op.operands])
 have h2:=hE y (by simp [ho,Op.operands])
 rw [hx] at h1
 rw [hy] at h2
 have hu:=ht.kind
 rw [hk] at hu
 &QbQ rfl ho hI h1.lit_inv h2.lit_inv ?_
 simp [eqGuard,binOp,Op.equal,Op.maxDepth,Qcb 9999 hu]
 cases p <;> cases q <;> rfl
theorem r_not{t:Nat}{x:Operand}{p:Bool}(ho:o.op = .unOp .not t x)(hx:opd env x = .lit (.bool p)):Qv P o env sto nxt ⟨.lit (.bool (!p)),[],[],0⟩:=.ran λF m a hI hE _ _=>by
 have h1:=hE x (by simp [ho,Op.operands])
 rw [hx] at h1
 ~Ran.val hI (v:=.bool (!p)) (by simp [execOp,ho,h1.lit_inv,Op.unary]) (.pure (.lit _ rfl))
theorem r_neg{t:Nat}{x:Operand}{k:IntKind}{p:Int}(ho:o.op = .unOp .neg t x)(hx:opd env x = .lit (.int k p)):Qv P o env sto nxt ⟨.lit (.int k (k.wrap (0-p))),[],[],0⟩:=.ran λF m a hI hE _ _=>by
 have h1:=hE x (by simp [ho,Op.operands])
 rw [hx] at h1
 ~Ran.val hI (v:=.int k (k.wrap (0-p))) (by simp [execOp,ho,h1.lit_inv,Op.unary,Op.intArith]) (.pure (.lit _ rfl))
theorem r_xor{t:Nat}{x:Operand}{k:IntKind}{p:Int}(ho:o.op = .unOp .xor t x)(hx:opd env x = .lit (.int k p)) :
  Qv P o env sto nxt ⟨.lit (.int k (k.wrap (BitVec.ofInt k.bits (if k.signed then -1 else k.max) ^^^ BitVec.ofInt k.bits p).toNat)),[],[],0⟩:=.ran λF m a hI hE _ _=>by
 have h1:=hE x (by simp [ho,Op.operands])
 rw [hx] at h1
 ~Ran.val hI (v:=.int k (k.wrap (BitVec.ofInt k.bits (if k.signed then -1 else k.max) ^^^ BitVec.ofInt k.bits p).toNat)) (by simp [execOp,ho,h1.lit_inv,Op.unary,Op.intBits]) (.pure (.lit _ rfl))
theorem r_conv{src dst:Nat}{x:Operand}{td td':TyD}{k q:IntKind}{n:Int}(ho:o.op = .convert src dst x)(hs:QF P src td)(hd:QF P dst td')(hk:td'.k = .int k)(hx:opd env x = .lit (.int q n)) :
  Qv P o env sto nxt ⟨.lit (.int k (k.wrap n)),[],[],0⟩:=.ran λF m a hI hE _ _=>by
 have h1:=hE x (by simp [ho,Op.operands])
 rw [hx] at h1
 have h2:=hd.kind
 rw [hk] at h2
 dsimp only at h2
 obtain ⟨u,hu⟩:∃ u,P.underlying src=some u:=by
  have h1:=hs.kind
  ð⟨kk,_,_,_⟩:=td
  cases kk <;> dsimp only at h1
  case struct=>ð⟨f,h1,_⟩:=h1;~⟨_,h1⟩
  case other=>ð⟨f,h1,_⟩:=h1;~⟨_,h1⟩
  all_goals ~⟨_,h1⟩
 &Ran.val hI (v:=.int k (k.wrap n)) ?_ (.pure (.lit _ rfl))
 cases u <;> simp [execOp,ho,h1.lit_inv,convert,run_underlying hu,run_underlying h2,Conv.intToInt]
theorem r_loadP{t:Nat}{p:Operand}{td:TyD}{cs:List DV}{d:DV}(ho:o.op = .load t p)(ht:QF P t td)(hp:opd env p = .pp cs)(hd:ldD td cs=some d):Qv P o env sto nxt ⟨d,[],[],0⟩:=.ran λF m a hI hE _ _=>by
 have h1:=hE p (by simp [ho,Op.operands])
 rw [hp] at h1
 ð⟨b,off,h2,h3⟩:=h1.pp_cells
 ð⟨v,h4,h5⟩:=load_ok (P:=P) ht h3 hd
 ~Ran.val hI (v:=v) (by simp [execOp,ho,h2,h4]) h5
theorem r_load{t:Nat}{p:Operand}{td:TyD}{s i j:Nat}{ob:Ob}{x:List DV}{d:DV}(ho:o.op = .load t p)(ht:QF P t td)(hp:opd env p = .ptr s i j)(hs:sto.get s=some ob)(hx:ob.els[i]?=some x)(hd:ldD td (x.drop j)=some d) :
  Qv P o env sto nxt ⟨d,[],[s],0⟩:=.ran λF m a hI hE hH _=>by
 have h1:=hE p (by simp [ho,Op.operands])
 rw [hp] at h1
 ð⟨e,g,cap,_,_,_,_,h2,h3⟩:=QbR h1 (hH s Os ob hs)
 ð⟨v,h4,h5⟩:=load_ok (P:=P) ht ((h3.cellsAt hx).drop (k:=j)) hd
 ~Ran.val hI (v:=v) (by simp [execOp,ho,h2,h4]) h5
theorem r_len{x:Operand}{t:Nat}{td:TyD}{e:Nat}{n:Nat}(ho:o.op = .call ⟨.builtin .len,#[x],#[t]⟩)(ht:QF P t td)(hk:td.k = .slice e)
  (hx:(∃ xs,opd env x = .sl xs/\xs.length=n)\/(opd env x = .lit (.slice none 0 0)/\n=0)):Qv P o env sto nxt ⟨.lit (.int .i64 n),[],[],0⟩:=.ran λF m a hI hE _ _=>by
 have h1:=hE x (by simp [ho,Op.operands,Call.operands])
 have hu:=ht.kind
 rw [hk] at hu
 obtain ⟨ad,c,hv⟩:∃ ad c,a.eval x = .slice ad n c:=by
  rcases hx with ⟨xs,hx,rfl⟩ | ⟨hx,rfl⟩
  ·rw [hx] at h1
   ð⟨ad,cap,h,_⟩:=h1.sl_inv.sl_inv
   ~⟨_,_,h⟩
  ·rw [hx] at h1
   ~⟨_,_,h1.lit_inv⟩
 ~Ran.val hI (v:=.int .i64 n) (by simp [execOp,ho,resolve,invoke,builtin,hv,Builtin.len_,run_underlying hu,goInt]) (.pure (.lit _ rfl))
theorem r_lenS{x:Operand}{t:Nat}{td:TyD}{e:Nat}{xs:List (List DV)}{n:Nat}(ho:o.op = .call ⟨.builtin .len,#[x],#[t]⟩)(ht:QF P t td)(hk:td.k = .slice e)(hx:opd env x = .sl xs)(hn:xs.length=n):Qv P o env sto nxt ⟨.lit (.int .i64 n),[],[],0⟩ :=
 r_len ho ht hk (.inl ⟨xs,hx,hn⟩)
theorem r_lenN{x:Operand}{t:Nat}{td:TyD}{e:Nat}(ho:o.op = .call ⟨.builtin .len,#[x],#[t]⟩)(ht:QF P t td)(hk:td.k = .slice e)(hx:opd env x = .lit (.slice none 0 0)):Qv P o env sto nxt ⟨.lit (.int .i64 (0:Nat)),[],[],0⟩ :=
 r_len ho ht hk (.inr ⟨hx,rfl⟩)
theorem r_lenO{x:Operand}{t:Nat}{td:TyD}{e:Nat}{s off len:Nat}{ob:Ob}(ho:o.op = .call ⟨.builtin .len,#[x],#[t]⟩)(ht:QF P t td)(hk:td.k = .slice e)(hx:opd env x = .own s off len)(hs:sto.get s=some ob) :
  Qv P o env sto nxt ⟨.lit (.int .i64 len),[],[s],0⟩:=.ran λF m a hI hE hH _=>by
 have h1:=hE x (by simp [ho,Op.operands,Call.operands])
 have hu:=ht.kind
 rw [hk] at hu
 rw [hx] at h1
 obtain ⟨ad,c,hv⟩:∃ ad c,a.eval x = .slice ad len c:=by
  ð⟨_,_,_,_,h⟩:=X5 h1 (hH s Os ob hs)
  rcases h with ⟨g,cap,_,h,_⟩ | ⟨_,h,_,rfl,_⟩ <;> ~⟨_,_,h⟩
 ~Ran.val hI (v:=.int .i64 len) (by simp [execOp,ho,resolve,invoke,builtin,hv,Builtin.len_,run_underlying hu,goInt]) (.pure (.lit _ rfl))
theorem r_nilP{x:Operand}{xs:List DV}(ho:o.op = .nilCheck x)(hx:opd env x = .pp xs):Qv P o env sto nxt ⟨.pp xs,[],[],0⟩:=.ran λF m a hI hE _ _=>by
 have h1:=hE x (by simp [ho,Op.operands])
 rw [hx] at h1
 ð⟨b,off,f,h2,_⟩:=h1.pp_inv
 ~Ran.val hI (v:=a.eval x) (by simp [execOp,ho,h2]) h1
theorem r_nil{x:Operand}{s i j:Nat}{ob:Ob}(ho:o.op = .nilCheck x)(hx:opd env x = .ptr s i j)(hs:sto.get s=some ob):Qv P o env sto nxt ⟨.ptr s i j,[],[s],0⟩:=.ran λF m a hI hE hH _=>by
 have h1:=hE x (by simp [ho,Op.operands])
 rw [hx] at h1
 ð⟨e,g,cap,_,_,_,_,h2,h3⟩:=QbR h1 (hH s Os ob hs)
 ~Ran.val hI (v:=a.eval x) (by simp [execOp,ho,h2]) h1
theorem r_nilF{x:Operand}{f:Nat}{xs:List DV}(ho:o.op = .nilCheck x)(hx:opd env x = .fn f xs):Qv P o env sto nxt ⟨.fn f xs,[],[],0⟩:=.ran λF m a hI hE _ _=>by
 have h1:=hE x (by simp [ho,Op.operands])
 rw [hx] at h1
 ð⟨vs,h2,_⟩:=h1.fn_inv
 ~Ran.val hI (v:=a.eval x) (by simp [execOp,ho,h2]) h1
theorem r_nilL{x:Operand}{f:Nat}{p q:Array Value}(ho:o.op = .nilCheck x)(hx:opd env x = .lit (.func (.func f) p q)):Qv P o env sto nxt ⟨.lit (.func (.func f) p q),[],[],0⟩:=.ran λF m a hI hE _ _=>by
 have h1:=hE x (by simp [ho,Op.operands])
 rw [hx] at h1
 ~Ran.val hI (v:=a.eval x) (by simp [execOp,ho,h1.lit_inv]) h1
end
section
variable{P:Program}{F:Fm}{m:Mem}{a:Act}{env:Env}{sto:Sto}{nxt:Nat}{o:Oper}
theorem QbN{t:Nat}{td:TyD}(h:QF P t td):∃ i z,P.info? t=some i/\i.size=td.size/\i.bytes=td.bytes/\i.zero=some z/\z.cells.toList.map DV.lit=td.zero/\(∀ u∈z.cells,u.oneCell'=true)/\(if td.agg then ∃ cs,z = .agg cs else z.oneCell'=true):=by
 ð⟨z,hz,hz2,hz3,hz4⟩:=h.zero
 have hi:=h.info
 cases hh:P.info? t with
 | none=>rw [hh] at hi;cases hi
 | some i =>
  rw [hh] at hi hz
  simp only [Wu,Wx,Uh] at hi hz
  ~⟨i,z,rfl,hi.1,hi.2,hz,hz2,λu hu=>WY.1 hz3 u (by simpa using hu),hz4⟩
theorem ty_field{t:Nat}{td:TyD}{fs:List (Nat×Nat)}(h:QF P t td)(hk:td.k = .struct fs){f off size:Nat}(hf:fs[f]?=some (off,size)) :
  ∃ fields fl,P.underlying t=some (.struct fields)/\fields[f]?=some fl/\fl.offset=off/\∀ w:World,(sizeOf fl.type).run P w = .ok size w:=by
 have h0:=h.kind
 rw [hk] at h0
 ð⟨fields,h1,h2,h3⟩:=h0
 rw [<- h2,Wh] at hf
 cases hh:fields.toList[f]? with
 | none=>rw [hh] at hf;cases hf
 | some fl =>
  rw [hh] at hf
  simp only [Wu,Wx,Uh] at hf
  have hm:fields[f]?=some fl:=by simpa using hh
  &⟨fields,fl,h1,hm,hf.1,λw=>?_⟩
  have hs:(P.info? fl.type).isSome=true:=WY.1 h3 fl (Wp hh)
  ð⟨i,hi⟩:=VL.1 hs
  have:i.size=size:=by
   have:=hf.2
   unfold Program.cellsOf at this
   rw [hi] at this
   ~this
  simp [sizeOf,typeInfo,hi,this]
theorem QdP{t f:Nat}{p:Operand}(ho:o.op = .fieldAddr t p f)(hI:Inv F m){td:TyD}{fs:List (Nat×Nat)}(ht:QF P t td)(hk:td.k = .struct fs){off size:Nat}(hf:fs[f]?=some (off,size))(h0:size≠0)
  {g q:Nat}(hp:a.eval p = .pointer (some ⟨g,q,none⟩)){d:DV}(hr:Rep m (.pointer (some ⟨g,q+off,none⟩)) d):Ran P F o a m d []:=by
 ð⟨fields,fl,k1,k2,k3,k4⟩:=ty_field ht hk hf
 &Ran.val hI (v:=.pointer (some ⟨g,q+off,none⟩)) ?_ hr
 simp [execOp,ho,hp,Instr.fieldAt,run_underlying k1,k2,Instr.sureAddr,fieldPlace,k4,h0,k3,add_lit]
theorem r_faP{t f:Nat}{p:Operand}{td:TyD}{fs:List (Nat×Nat)}{off size:Nat}{xs:List DV}(ho:o.op = .fieldAddr t p f)(ht:QF P t td)(hk:td.k = .struct fs)(hf:fs[f]?=some (off,size))(h0:size≠0)(hp:opd env p = .pp xs) :
  Qv P o env sto nxt ⟨.pp (xs.drop off),[],[],0⟩:=.ran λF m a hI hE _ _=>by
 have h1:=hE p (by simp [ho,Op.operands])
 rw [hp] at h1
 ð⟨b,q,h2,h3⟩:=h1.pp_drop off
 ~QdP ho hI ht hk hf h0 h2 h3
theorem r_fa{t f:Nat}{p:Operand}{td:TyD}{fs:List (Nat×Nat)}{off size:Nat}{s i j:Nat}{ob:Ob}(ho:o.op = .fieldAddr t p f)(ht:QF P t td)(hk:td.k = .struct fs)(hf:fs[f]?=some (off,size))(h0:size≠0)(hp:opd env p = .ptr s i j)(hs:sto.get s=some ob) :
  Qv P o env sto nxt ⟨.ptr s i (j+off),[],[s],0⟩:=.ran λF m a hI hE hH _=>by
 have h1:=hE p (by simp [ho,Op.operands])
 rw [hp] at h1
 ð⟨e,g,cap,k1,k2,_,k3,h2,h3⟩:=QbR h1 (hH s Os ob hs)
 &QdP ho hI ht hk hf h0 h2 ?_
 rw [Vf,<- k2]
 ~.ptr k1 k3
theorem QdO{t e:Nat}{x ix:Operand}(ho:o.op = .indexAddr t x ix)(hI:Inv F m){tt td:TyD}(ht:QF P t tt)(hk:tt.k = .slice e)(he:QF P e td){k:IntKind}{i:Int}(hi:a.eval ix = .int k i)
  {g q len cap:Nat}(hx:a.eval x = .slice (some ⟨g,q,none⟩) len cap)(h0:0<=i)(h1:i<len){d:DV}(hr:Rep m (.pointer (some ⟨g,q+i.toNat*td.size,none⟩)) d):Ran P F o a m d []:=by
 have hu:=ht.kind
 rw [hk] at hu
 &Ran.val hI (v:=.pointer (some ⟨g,q+i.toNat*td.size,none⟩)) ?_ hr
 simp [execOp,ho,hi,hx,Instr.indexAt,run_underlying hu,asIntOf,h0,h1,QfK he,add_lit]
theorem r_iaS{t e:Nat}{x ix:Operand}{tt td:TyD}{k:IntKind}{i:Nat}{xs:List (List DV)}{y:List DV}(ho:o.op = .indexAddr t x ix)(ht:QF P t tt)(hk:tt.k = .slice e)(he:QF P e td)(hx:opd env x = .sl xs)(hi:opd env ix = .lit (.int k (i:Int)))
  (hy:xs[i]?=some y)(hl:y.length=td.size):Qv P o env sto nxt ⟨.pp y,[],[],0⟩:=.ran λF m a hI hE _ _=>by
 have h1:=hE x (by simp [ho,Op.operands])
 have h2:=hE ix (by simp [ho,Op.operands])
 rw [hx] at h1
 rw [hi] at h2
 have hlt:i<xs.length:=by
  rcases Ws i xs.length with h' | h'
  ·~h'
  ·rw [Wg h'] at hy;cases hy
 ð⟨ad,cap,h3,h4,h5,h6⟩:=h1.sl_inv.sl_inv
 ð⟨b,off,sz,f,rfl,q1,q2,q3,q4,q5,q6⟩:=h6 (by rintro rfl;simp at hlt)
 have hsz:td.size=sz:=by rw [<- hl,q4 i y hy]
 &QdO ho hI ht hk he h2.lit_inv h3 Oo Oo ?_
 rw [hsz,Wd]
 ~.pp (f i) q2 q3 (λj d hd=>q5 i y j d hy hd) (λj d hd=>q6 i y j d hy hd)
theorem r_iaM{α:Type}{c:α->List DV}{l:List α}{t e:Nat}{x ix:Operand}{tt td:TyD}{k:IntKind}{i:Nat}(ho:o.op = .indexAddr t x ix)(ht:QF P t tt)(hk:tt.k = .slice e)(he:QF P e td)(hx:opd env x = .sl (l.map c))(hi:opd env ix = .lit (.int k (i:Int)))
  (hlt:i<l.length)(hl:(c l[i]).length=td.size):Qv P o env sto nxt ⟨.pp (c l[i]),[],[],0⟩ :=
 r_iaS ho ht hk he hx hi (by rw [Wh,Wa hlt];rfl) hl
theorem r_iaO{t e:Nat}{x ix:Operand}{tt td:TyD}{k:IntKind}{i:Nat}{s off len:Nat}{ob:Ob}(ho:o.op = .indexAddr t x ix)(ht:QF P t tt)(hk:tt.k = .slice e)(he:QF P e td)(hx:opd env x = .own s off len)(hi:opd env ix = .lit (.int k (i:Int)))(hs:sto.get s=some ob)
  (hz:ob.esz=td.size)(hlt:i<len):Qv P o env sto nxt ⟨.ptr s (off+i) 0,[],[s],0⟩:=.ran λF m a hI hE hH _=>by
 have h1:=hE x (by simp [ho,Op.operands])
 have h2:=hE ix (by simp [ho,Op.operands])
 rw [hx] at h1
 rw [hi] at h2
 ð⟨e',k1,k2,_,h⟩:=X5 h1 (hH s Os ob hs)
 rcases h with ⟨g,cap,k4,h3,h4,h5⟩ | ⟨_,_,_,h,_⟩
 ·&QdO ho hI ht hk he h2.lit_inv h3 Oo Oo ?_
  rw [Wd,<- hz,<- Vv,<- k2]
  have:=Rep.ptr (i:=off+i) (j:=0) k1 k4
  rwa [VW] at this
 ·omega
theorem r_iaA{t e n:Nat}{x ix:Operand}{tt td:TyD}{k:IntKind}{i:Nat}{s p q:Nat}{ob:Ob}(ho:o.op = .indexAddr t x ix)(ht:QF P t tt)(hk:tt.k = .array n e)(he:QF P e td)(hx:opd env x = .ptr s p q)(hi:opd env ix = .lit (.int k (i:Int)))(hs:sto.get s=some ob)
  (hlt:i<n):Qv P o env sto nxt ⟨.ptr s p (q+i*td.size),[],[s],0⟩:=.ran λF m a hI hE hH _=>by
 have h1:=hE x (by simp [ho,Op.operands])
 have h2:=hE ix (by simp [ho,Op.operands])
 rw [hx] at h1
 rw [hi] at h2
 have hu:=ht.kind
 rw [hk] at hu
 ð⟨e',g,cap,k1,k2,_,k3,h3,h4⟩:=QbR h1 (hH s Os ob hs)
 have e1:(0:Int)<=(i:Int):=by omega
 &Ran.val hI (v:=.pointer (some ⟨g,p*ob.esz+q+i*td.size,none⟩)) ?_ ?_
 ·simp [execOp,ho,h2.lit_inv,h3,Instr.indexAt,run_underlying hu,asIntOf,QfK he,add_lit,Instr.sureAddr,hlt]
 ·rw [Vf,<- k2]
  ~.ptr k1 k3
theorem slice_at{b off sz:Nat}{xs:List (List DV)}{w:World}{no:Nat->Prop}{cap:Nat}{f:Nat->Nat->Value}(h0:0<sz)(hc:xs.length<=cap)(hm:cap<=maxLen)(hno:¬ no b)(hb:b<w.heap.size)(h7:∀ (i:Nat) x,xs[i]?=some x->x.length=sz)
  (h8:∀ (i:Nat) x (j:Nat) d,xs[i]?=some x->x[j]?=some d->w.cell? ⟨b,off+i*sz+j,none⟩=some (f i j))(h9:∀ (i:Nat) x (j:Nat) d,xs[i]?=some x->x[j]?=some d->PRep w no (f i j) d)
  (lo hi:Nat)(hlh:lo<hi)(hh:hi<=xs.length):PRep w no (.slice (some ⟨b,off+lo*sz,none⟩) (hi-lo) (cap-lo)) (.sl ((xs.take hi).drop lo)):=by
 have hl:((xs.take hi).drop lo).length=hi-lo:=by simp;omega
 have hget:∀ (i:Nat) x,((xs.take hi).drop lo)[i]?=some x->xs[lo+i]?=some x:=λi x hx=>by
  rw [W2,WL] at hx
  split at hx
  ·~hx
  ·cases hx
 have:=PRep.sl (w:=w) (no:=no) b (off+lo*sz) (cap-lo) sz ((xs.take hi).drop lo) (λi j=>f (lo+i) j) h0 Oo Oo Oo hno hb (λi x hx=>h7 _ x (hget i x hx))
  (λi x j d hx hd=>by rw [show off+lo*sz+i*sz+j=off+(lo+i)*sz+j by rw [Vv];omega];~h8 _ x j d (hget i x hx) hd) (λi x j d hx hd=>h9 _ x j d (hget i x hx) hd)
 rwa [hl] at this
inductive Bnd(env:Env):Option Operand->Option Nat->Prop
 | none:Bnd env none none
 | some {x:Operand} {k:IntKind} {n:Nat}:opd env x = .lit (.int k (n:Int))->Bnd env (some x) (some n)
theorem Qey{lo:Option Operand}{l:Option Nat}(h:Bnd env lo l)(hr:∀ x,lo=some x->Rep m (a.eval x) (opd env x)):(lo.map a.eval=none/\l=none)\/∃ k n,lo.map a.eval=some (.int k ((n:Nat):Int))/\l=some n:=by
 cases h with
 | none=>~.inl ⟨rfl,rfl⟩
 | @some x k n h =>
  have:=hr x rfl
  rw [h] at this
  ~.inr ⟨k,n,by rw [Wu,this.lit_inv],rfl⟩
theorem Xy{len cap:Nat}{lo hi:Option Value}{l h:Option Nat}(hl:(lo=none/\l=none)\/∃ k n,lo=some (.int k ((n:Nat):Int))/\l=some n)(hh:(hi=none/\h=none)\/∃ k n,hi=some (.int k ((n:Nat):Int))/\h=some n)
  (h1:l.getD 0<=h.getD len)(h2:h.getD len<=len)(hc:len<=cap)(b:Bool)(w:World) :
  (Instr.sliceBounds b len cap lo hi none).run P w = .ok (l.getD 0,h.getD len,cap) w:=by
 rcases hl with ⟨rfl,rfl⟩ | ⟨k,n,rfl,rfl⟩ <;> rcases hh with ⟨rfl,rfl⟩ | ⟨k',n',rfl,rfl⟩ <;>
  simp only [YI,WE] at h1 h2
 ·simp [Instr.sliceBounds]
 ·have e1:n'<=cap:=by omega
  simp [Instr.sliceBounds,Instr.sliceBound,asIntOf,e1]
 ·simp [Instr.sliceBounds,Instr.sliceBound,asIntOf,h1]
 ·have e1:n'<=cap:=by omega
  simp [Instr.sliceBounds,Instr.sliceBound,asIntOf,e1,h1]
theorem Qcs{t e:Nat}{tt td:TyD}(ht:QF P t tt)(hk:tt.k = .slice e)(he:QF P e td){ad:Option Addr}{len cap:Nat}{lo hi:Option Value}{l h:Nat}{w:World}
  (hb:(Instr.sliceBounds true len cap lo hi none).run P w = .ok (l,h,cap) w) :
  (Instr.sliceAt t (.slice ad len cap) lo hi none).run P w = .ok (.slice (if cap=l then ad else ad.map (·.add (l*td.size))) (h-l) (cap-l)) w:=by
 have hu:=ht.kind
 rw [hk] at hu
 simp [Instr.sliceAt,run_underlying hu,Instr.slice,hb,QfK he]
theorem r_slS{t e:Nat}{x:Operand}{lo hi:Option Operand}{tt td:TyD}{xs:List (List DV)}{l h:Option Nat}(ho:o.op = .slice t x lo hi none)(ht:QF P t tt)(hk:tt.k = .slice e)(he:QF P e td)(hx:opd env x = .sl xs)(hl:Bnd env lo l)(hh:Bnd env hi h)
  (h1:l.getD 0<=h.getD xs.length)(h2:h.getD xs.length<=xs.length)(hz:∀ y∈xs.head?,y.length=td.size):Qv P o env sto nxt ⟨.sl ((xs.take (h.getD xs.length)).drop (l.getD 0)),[],[],0⟩:=.ran λF m a hI hE _ _=>by
 have hX:=hE x (by simp [ho,Op.operands])
 rw [hx] at hX
 have hL:=Qey (m:=m) (a:=a) hl λx hx=>hE x (by simp [ho,Op.operands,hx])
 have hH:=Qey (m:=m) (a:=a) hh λx hx=>hE x (by simp [ho,Op.operands,hx])
 ð⟨ad,cap,q0,k1,k2,k3⟩:=hX.sl_inv.sl_inv
 have hrun:=Qcs ht hk he (ad:=ad) (Xy (P:=P) hL hH h1 h2 k1 true m.w)
 generalize l.getD 0=l' at *
 generalize h.getD xs.length=h' at *
 &Ran.val hI (v:=.slice (if cap=l' then ad else ad.map (·.add (l' * td.size))) (h' - l') (cap-l')) (by simp [execOp,ho,q0,hrun]) ?_
 by_cases hlt:l' < h'
 ·ð⟨b',off,sz,f,rfl,q1,q2,q3,q4,q5,q6⟩:=k3 (by rintro rfl;simp at h2;omega)
  have hsz:td.size=sz:=by
   cases xs with
   | nil=>simp at h2;omega
   | cons y ys=>rw [<- hz y rfl,q4 0 y rfl]
  rw [if_neg Oo]
  simp only [Wu,add_lit]
  rw [hsz]
  ~.pure (slice_at q1 k1 k2 q2 q3 q4 q5 q6 l' h' Oo Oo)
 ·obtain rfl:l'=h':=by omega
  have e0:(xs.take l').drop l'=[]:=by simp
  rw [e0,Ui]
  ~.pure (.nil _ _ Oo)
theorem r_slO{t e:Nat}{x:Operand}{lo hi:Option Operand}{tt td:TyD}{s off len:Nat}{ob:Ob}{l h:Option Nat}(ho:o.op = .slice t x lo hi none)(ht:QF P t tt)(hk:tt.k = .slice e)(he:QF P e td)(hx:opd env x = .own s off len)(hs:sto.get s=some ob)(hl:Bnd env lo l)(hh:Bnd env hi h)
  (hz:ob.esz=td.size)(h1:l.getD 0<=h.getD len)(h2:h.getD len<=len)(h3:l.getD 0=0\/l.getD 0<h.getD len):Qv P o env sto nxt ⟨.own s (off+l.getD 0) (h.getD len-l.getD 0),[],[s],0⟩:=.ran λF m a hI hE hHo _=>by
 have hX:=hE x (by simp [ho,Op.operands])
 rw [hx] at hX
 have hL:=Qey (m:=m) (a:=a) hl λx hx=>hE x (by simp [ho,Op.operands,hx])
 have hH:=Qey (m:=m) (a:=a) hh λx hx=>hE x (by simp [ho,Op.operands,hx])
 ð⟨e',k1,k2,k3,k6⟩:=X5 hX (hHo s Os ob hs)
 rcases k6 with ⟨g,cap,k6,q0,k7,k8⟩ | ⟨k6,q0,rfl,rfl,k7,k8⟩
 ·have hrun:=Qcs ht hk he (ad:=some ⟨g,off*ob.esz,none⟩) (Xy (P:=P) (cap:=cap-off) hL hH h1 h2 Oo true m.w)
  have hmax:=k8.max
  generalize l.getD 0=l' at *
  generalize h.getD len=h' at *
  &Ran.val hI (v:=.slice (if cap-off=l' then some ⟨g,off*ob.esz,none⟩ else some ⟨g,off*ob.esz+l' * td.size,none⟩) (h' - l') (cap-off-l')) (by simp [execOp,ho,q0,hrun,add_lit]) ?_
  have key:=Rep.own (m:=m) (off:=off+l') (len:=h' - l') k1 k6 Oo hmax
  rw [k2] at key
  by_cases hzz:cap-off=l'
  ·have z1:l'=0:=by omega
   subst z1
   simp only [VW,Uw] at key hzz ⊢
   rw [if_pos hzz]
   ~key
  ·rw [if_neg hzz,<- hz,<- Vv,Nat.sub_sub]
   ~key
 ·have hrun:=Qcs ht hk he (ad:=none) (Xy (P:=P) (len:=0) (cap:=0) hL hH h1 h2 (Wl _) true m.w)
  generalize l.getD 0=l' at *
  generalize h.getD 0=h' at *
  obtain rfl:l'=0:=by omega
  obtain rfl:h'=0:=by omega
  &Ran.val hI (v:=.slice none 0 0) (by simp [execOp,ho,q0,hrun]) ?_
  ~.ownNil k1 k6
theorem evals_rep{xs:List Operand}(h:∀ x∈xs,Rep m (a.eval x) (opd env x)):∀ (i:Nat) v d,(xs.map a.eval)[i]?=some v->(xs.map (opd env))[i]?=some d->Rep m v d:=λi v d hv hd=>by
 rw [Wh] at hv hd
 cases hx:xs[i]? with
 | none=>rw [hx] at hv;cases hv
 | some x =>
  rw [hx] at hv hd
  injection hv with hv
  injection hd with hd
  rw [<- hv,<- hd]
  ~h x (Wp hx)
theorem r_func{f:Nat}{cap:Array Operand}{l:List Operand}(ho:o.op = .makeFunc (.func f) #[] cap)(hc:cap=l.toArray):Qv P o env sto nxt ⟨.fn f (l.map (opd env)),[],[],0⟩:=.ran λF m a hI hE _ _=>by
 subst hc
 &Ran.val hI (v:=.func (.func f) #[] (l.map a.eval).toArray) (by simp [execOp,ho,Instr.makeFunc]) (.fn Os (evals_rep λx hx=>hE x (by simp [ho,Op.operands,hx])))
theorem fold_set(cs:List Value)(off:Nat)(cells:Array Value):cs.toArray.zipIdx.foldl (λacc (p:Value×Nat)=>acc.setIfInBounds (off+p.2) p.1) cells=(setCells cells.toList off cs).toArray:=by
 rw [<- Array.foldl_toList,Array.toList_zipIdx]
 have key:∀ (cs:List Value) (k:Nat) (cells:Array Value),(cs.zipIdx k).foldl (λacc (p:Value×Nat)=>acc.setIfInBounds (off+p.2) p.1) cells=(setCells cells.toList (off+k) cs).toArray:=by
  intro cs
  induction cs with
  | nil=>intro k cells;simp [setCells]
  | cons c cs ih =>
   intro k cells
   rw [List.zipIdx_cons,V2,ih]
   simp [setCells,Vf]
 ~key cs 0 cells
def Reps(m:Mem)(vs:List Value)(ds:List DV):Prop:=vs.length=ds.length/\∀ (i:Nat) v d,vs[i]?=some v->ds[i]?=some d->Rep m v d
theorem Reps.set{vs:List Value}{ds:List DV}(h:Reps m vs ds){cs:List Value}{es:List DV}(k:Reps m cs es){off:Nat}(hf:off+es.length<=ds.length):Reps m (setCells vs off cs) (setCells ds off es):=by
 &⟨by rw [JE,JE,h.1],λi v d hv hd=>?_⟩
 rw [Qba cs vs off (by rw [k.1,h.1];~hf)] at hv
 rw [Qba es ds off hf] at hd
 by_cases h1:i<off
 ·rw [if_pos h1] at hv hd
  ~h.2 i v d hv hd
 ·rw [if_neg h1] at hv hd
  rw [k.1] at hv
  by_cases h2:i<off+es.length
  ·rw [if_pos h2] at hv hd
   ~k.2 _ v d hv hd
  ·rw [if_neg h2] at hv hd
   ~h.2 i v d hv hd
def partF(sto:Sto):DV->Option (List DV×List Nat)
 | .agg cs=>some (cs,[])
 | x=>(box1F sto x).map λr=>([x],r)
theorem one_cells{u:Value}(hu:u.oneCell'=true):u.cells=[u].toArray:=by cases u <;> first | rfl | (simp [Value.oneCell'] at hu)
theorem part_val{v:Value}{x:DV}(hr:Rep m v x){cs:List DV}{r:List Nat}(h:partF sto x=some (cs,r))(hs:QU m sto r):∃ vs:List Value,v.cells=vs.toArray/\Reps m vs cs:=by
 have fin:∀ {x:DV},Rep m v x->(box1F sto x).map (λr=>([x],r))=some (cs,r)->∃ vs:List Value,v.cells=vs.toArray/\Reps m vs cs:=λ{x} hr h=>by
  cases hb:box1F sto x with
  | none=>rw [hb] at h;cases h
  | some r' =>
   rw [hb] at h
   simp only [Wu,Wx,Uh] at h
   ð⟨rfl,rfl⟩:=h
   &⟨[v],one_cells (box1_one (box1F_ok hb) hs hr),rfl,λi u d hu hd=>?_⟩
   cases i with
   | zero=>simp at hu hd;subst hu;subst hd;~hr
   | succ i=>simp at hu
 cases x with
 | agg xs =>
  simp only [partF,Wx,Uh] at h
  ð⟨rfl,rfl⟩:=h
  ð⟨vs,rfl,h1,h2⟩:=hr.agg_inv
  ~⟨vs,rfl,h1,h2⟩
 | _=>~fin hr h
def Qds(sto:Sto)(place:Nat->Option (Nat×Nat))(cells:List DV):List (Nat×DV)->Option (List DV×List Nat)
 | []=>some (cells,[])
 | (i,x) :: rest=>match place i with
  | none=>none
  | some (off,size) =>
   match partF sto x with
   | none=>none
   | some (cs,r)=>if cs.length=size/\off+size<=cells.length then (match Qds sto place (setCells cells off cs) rest with
    | some (out,r')=>some (out,r++r')
    | none=>none) else none
theorem Qfy{place:Nat->Option (Nat×Nat)}{parts:List (Nat×Operand)}(hE:∀ p∈parts,Rep m (a.eval p.2) (opd env p.2)){vs:List Value}{ds out:List DV}{r:List Nat}(hv:Reps m vs ds)
  (h:Qds sto place ds (parts.map λp=>(p.1,opd env p.2))=some (out,r))(hs:QU m sto r) :
  ∃ us:List Value,Instr.fill place vs.toArray (parts.map λp=>(p.1,a.eval p.2))=some us.toArray/\Reps m us out:=by
 induction parts generalizing vs ds r with
 | nil =>
  simp only [List.map_nil,Qds,Wx,Uh] at h
  ð⟨rfl,rfl⟩:=h
  ~⟨vs,rfl,hv⟩
 | cons p rest ih =>
  ð⟨i,x⟩:=p
  simp only [Vg,Qds] at h
  cases hp:place i with
  | none=>rw [hp] at h;cases h
  | some q =>
   ð⟨off,size⟩:=q
   rw [hp] at h
   dsimp only at h
   cases hq:partF sto (opd env x) with
   | none=>rw [hq] at h;cases h
   | some q =>
    ð⟨cs,r1⟩:=q
    rw [hq] at h
    dsimp only at h
    split at h
    ·rename_i hc
     ð⟨c1,c2⟩:=hc
     split at h
     ·rename_i out' r2 hf
      simp only [Wx,Uh] at h
      ð⟨rfl,rfl⟩:=h
      ð⟨ws,k1,k2⟩:=part_val (hE (i,x) Os) hq λs h=>hs s (Wf _ h)
      have hset:=hv.set k2 (off:=off) Oo
      ð⟨us,j1,j2⟩:=ih (λp hp=>hE p (Wm _ hp)) hset hf λs h=>hs s (Wj _ h)
      &⟨us,?_,j2⟩
      have hfold:=fold_set ws off vs.toArray
      simp only [Vg,Instr.fill,hp]
      have g1:(a.eval x).cells.size=size:=by rw [k1];simp [k2.1,c1]
      rw [if_neg (by rw [g1];simp [hv.1];omega),k1,hfold]
      ~j1
     ·cases h
    ·cases h
theorem zero_reps{t:Nat}{td:TyD}(ht:QF P t td)(m:Mem):∃ z,(zeroValue t).run P m.w = .ok z m.w/\Reps m z.cells.toList td.zero/\(∀ u∈z.cells,u.oneCell'=true)/\(if td.agg then ∃ cs,z = .agg cs else z.oneCell'=true):=by
 ð⟨i,z,h1,h2,h3,h4,h5,h6,h7⟩:=QbN ht
 &⟨z,by simp [zeroValue,typeInfo,h1,h4],⟨by rw [<- h5];simp,λi v d hv hd=>?_⟩,h6,h7⟩
 rw [<- h5,Wh,hv] at hd
 injection hd with hd
 subst hd
 ~.pure (.lit v (h6 v (by simpa using List.mem_of_getElem? hv)))
theorem QfU:∀ (l:List Field),(∀ f∈l,(P.info? f.type).isSome=true)->l.mapM (λf=>(P.info? f.type).map λi=>(f.offset,i.size))=some (l.map λf=>(f.offset,P.cellsOf f.type))
 | [],_=>rfl
 | f :: l,h=>by
  ð⟨i,hi⟩:=VL.1 (h f Os)
  have hc:P.cellsOf f.type=i.size:=by unfold Program.cellsOf;rw [hi];rfl
  simp [Y5,hi,QfU l (λg hg=>h g (by simp [hg])),hc]
theorem r_build{t:Nat}{parts:Array (Nat×Operand)}{l:List (Nat×Operand)}{td:TyD}{fs:List (Nat×Nat)}{cells:List DV}{r:List Nat}(ho:o.op = .build t parts)(hp:parts=l.toArray)(ht:QF P t td)(hk:td.k = .struct fs)
  (h:Qds sto (fs[·]?) td.zero (l.map λp=>(p.1,opd env p.2))=some (cells,r)):Qv P o env sto nxt ⟨.agg cells,[],r,0⟩:=.ran λF m a hI hE hH _=>by
 subst hp
 ð⟨i,z,z1,_,_,z2,z3,z6,_⟩:=QbN ht
 have hu:=ht.kind
 rw [hk] at hu
 ð⟨fields,hu,hf,hi⟩:=hu
 have hz:Reps m z.cells.toList td.zero:=⟨by rw [<- z3];simp,λi v d hv hd=>by
  rw [<- z3,Wh,hv] at hd
  injection hd with hd
  subst hd
  ~.pure (.lit v (z6 v (by simpa using List.mem_of_getElem? hv)))⟩
 ð⟨us,k1,k2⟩:=Qfy (parts:=l) (λp hp=>hE p.2 (by simp only [ho,Op.operands];simp;~⟨p.1,hp⟩)) hz h hH
 rw [UU] at k1
 have hb:P.built t (l.map λp=>(p.1,a.eval p.2))=some us.toArray:=by
  unfold Program.built
  simp only [z1,hu,z2,QfU fields.toList (λf hf=>WY.1 hi f hf),hf]
  simpa using k1
 &Ran.val hI (v:=.agg us.toArray) ?_ (.agg k2.1 k2.2)
 have hr:=run_build (P:=P) m.w t (l.map λp=>(p.1,a.eval p.2)).toArray us.toArray (by simpa using hb)
 simp only [execOp,ho]
 rw [show (l.toArray.map λ(x:Nat×Operand)=>match x with | (i,x)=>(i,a.eval x))=(l.map λp=>(p.1,a.eval p.2)).toArray from by simp]
 rw [Sem.run_bind,hr]
 rfl
end
section
variable{P:Program}{F:Fm}{m:Mem}{a:Act}{env:Env}{sto:Sto}{nxt:Nat}{o:Oper}
theorem Holds.of{m:Mem}{s:Nat}{ob:Ob}{e:Ent}{g cap:Nat}(h1:m.σ s=some (some e))(h2:e.esz=ob.esz)(h3:e.mu=!ob.frz)(h4:e.blk=some (g,cap))(h5:Row m ob g cap)(h6:Deep m e.inn ob g):Holds m s ob :=
 ⟨e,h1,h2,h3,by rw [h4];~⟨h5,h6⟩⟩
theorem Ran.new{F:Fm}(hI:Inv F m){s:Nat}(hs:m.σ s=none){cur:Array Value}{T:Nat}{v:Value}{d:DV}{ob:Ob}{cap:Nat}(hrun:(execOp a.eval o).run P m.w = .ok (.value v) (m.w.alloc (.cells cur T)))
  (hd:∀ m':Mem,m'.σ s=some (some ⟨ob.esz,some (m.w.heap.size,cap),true,noI⟩)->Rep m' v d)(hf:ob.frz=false)
  (hrow:∀ m':Mem,Ext m m'->m'.w.heap[m.w.heap.size]?=some (.cells cur T (0,0))->Row m' ob m.w.heap.size cap)(hflat:ob.arr=true\/∀ (i:Nat) x (j:Nat) z xs,ob.els[i]?=some x->x[j]?=some (.dp z xs)->False):Ran P F o a m d [(s,some ob)]:=by
 have hT:=QcV hI hs (m.w.alloc (.cells cur T)) ⟨ob.esz,some (m.w.heap.size,cap),true,noI⟩ rfl rfl rfl Os (λk hk=>heap_alloc_old m.w _ hk) (λg c h=>by
  injection h with h
  injection h with h1 h2
  subst h1
  ~⟨Wl _,Os⟩)
 &⟨v,_,.inl hrun,hT.1,hT.2,hd _ (Qi _ _ _),λp hp=>?_⟩
 obtain rfl:p=(s,some ob):=by simpa using hp
 &⟨_,Qi _ _ _,rfl,by rw [hf];rfl,?_⟩
 have hr:=hrow _ hT.2.toExt (heap_alloc_new m.w _)
 ~⟨hr,hflat.elim (λh=>hr.deep h _) Deep.flat⟩
theorem QfO{m m':Mem}(he:Ext m m'){vs:List Value}{ds:List DV}{arr:Bool}(hr:Reps m vs ds)(h1:∀ (i:Nat) v d,vs[i]?=some v->ds[i]?=some d->QgN m arr v d){g T sz:Nat}(hg:m'.w.heap[g]?=some (.cells vs.toArray T (0,0)))(hsz:ds.length=sz)(h0:0<sz):Row m' ⟨sz,arr,false,[ds]⟩ g 1:=by
 &⟨⟨vs.toArray,T,hg,by simp [hr.1,hsz],λi x j d hx hd=>?_⟩,Wl _,by unfold maxLen;omega,h0,λi x hx=>?_⟩
 ·cases i with
  | zero =>
   simp only [WJ,Wx] at hx
   subst hx
   have hlt:j<vs.length:=by
    rcases Ws j ds.length with h' | h'
    ·rw [hr.1];~h'
    ·rw [Wg h'] at hd;cases hd
   &⟨vs[j],by simp [hlt],(h1 j _ d (Wa hlt) hd).ext he⟩
  | succ i=>simp at hx
 ·cases i with
  | zero=>simp only [WJ,Wx] at hx;subst hx;~hsz
  | succ i=>simp at hx
theorem Box.nodp{cs:List DV}{r:List Nat}(h:Box sto cs r):∀ (j:Nat) z xs,cs[j]?=some (.dp z xs)->False:=by
 induction h with
 | nil=>intro j z xs h;simp at h
 | cons h1 _ ih =>
  intro j z xs h
  cases j with
  | zero=>simp only [WJ,Wx] at h;subst h;cases h1
  | succ j=>~ih j z xs (by simpa using h)
theorem r_alloc{t:Nat}{td:TyD}(ho:o.op = .alloc t)(ht:QF P t td)(hz:td.zero.length=td.size)(h0:0<td.size):Qv P o env sto nxt ⟨.ptr nxt 0 0,[(nxt,some ⟨td.size,false,false,[td.zero]⟩)],[],1⟩:=.ran λF m a hI hE hH hF=>by
 ð⟨z,z1,z2,z3,_⟩:=zero_reps ht m
 &Ran.new hI (hF nxt (Wl _) (by show nxt<nxt+1;omega)) (cur:=z.cells) (T:=t) (v:=.pointer (some ⟨m.w.heap.size,0,none⟩)) (cap:=1) ?_ (λm' h=>?_) rfl (λm' he hg=>?_) ?_
 ·have hn:(newVar t z).run P m.w = .ok ⟨m.w.heap.size,0,none⟩ (m.w.alloc (.cells z.cells t)):=by simp [newVar,newRow]
  simp [execOp,ho,Instr.alloc,z1,hn]
 ·have:=Rep.ptr (m:=m') (i:=0) (j:=0) h rfl
  simpa using this
 ·have hg':m'.w.heap[m.w.heap.size]?=some (.cells z.cells.toList.toArray t (0,0)):=by simpa using hg
  ~QfO he z2 (λi v d hv hd=>⟨z3 v (by simpa using List.mem_of_getElem? hv),by simpa using z2.2 i v d hv hd⟩) hg' hz h0
 ·&.inr λi x j z' xs h1 h2=>?_
  cases i with
  | zero =>
   simp only [WJ,Wx] at h1
   subst h1
   ð⟨z0,_,h5,_⟩:=ht.zero
   rw [<- h5,Wh] at h2
   cases hq:z0.cells.toList[j]? with
   | none=>rw [hq] at h2;cases h2
   | some v=>rw [hq] at h2;cases h2
  | succ i=>simp at h1
theorem r_box{t:Nat}{x:Operand}{td:TyD}{cs:List DV}{r:List Nat}(ho:o.op = .box t x)(ht:QF P t td)(hc:Qbe td (opd env x)=some cs)(hb:boxF sto cs=some r)(h0:0<td.size) :
  Qv P o env sto nxt ⟨.ptr nxt 0 0,[(nxt,some ⟨td.size,false,false,[cs]⟩)],r,1⟩:=.ran λF m a hI hE hH hF=>by
 have h1:=hE x (by simp [ho,Op.operands])
 ð⟨vs,k1,k2,k3,k4,k5⟩:=Qgn h1 hc (box_one (Qex hb) hH)
 &Ran.new hI (hF nxt (Wl _) (by show nxt<nxt+1;omega)) (cur:=vs.toArray) (T:=t) (v:=.pointer (some ⟨m.w.heap.size,0,none⟩)) (cap:=1) ?_ (λm' h=>?_) rfl (λm' he hg=>?_) ?_
 ·have hn:(newVar t (a.eval x)).run P m.w = .ok ⟨m.w.heap.size,0,none⟩ (m.w.alloc (.cells vs.toArray t)):=by simp [newVar,newRow,k1]
  simp [execOp,ho,Instr.box,hn]
 ·have:=Rep.ptr (m:=m') (i:=0) (j:=0) h rfl
  simpa using this
 ·~QfO he ⟨Oo,k5⟩ (λi v d hv hd=>⟨k4 v (Wp hv),by simpa using k5 i v d hv hd⟩) hg k3 h0
 ·&.inr λi x j z' xs h1 h2=>?_
  cases i with
  | zero =>
   simp only [WJ,Wx] at h1
   subst h1
   ~(Qex hb).nodp j _ _ h2
  | succ i=>simp at h1
theorem Qdl{m m':Mem}(he:Ext m m'){vs:List Value}{ds:List DV}{arr:Bool}(hr:vs.length=ds.length)(h1:∀ (i:Nat) v d,vs[i]?=some v->ds[i]?=some d->QgN m arr v d){g T sz n:Nat}(hg:m'.w.heap[g]?=some (.cells vs.toArray T (0,0)))(hsz:ds.length=n*sz)(h0:0<sz)(hm:n<=maxLen)
  {els:List (List DV)}(hn:els.length=n)(hel:∀ (i:Nat) x,els[i]?=some x->x.length=sz/\∀ (j:Nat) d,x[j]?=some d->ds[i*sz+j]?=some d):Row m' ⟨sz,arr,false,els⟩ g n:=by
 &⟨⟨vs.toArray,T,hg,by simp [hr,hsz],λi x j d hx hd=>?_⟩,by simp [hn],hm,h0,λi x hx=>(hel i x hx).1⟩
 have hd':=(hel i x hx).2 j d hd
 have hlt:i*sz+j<vs.length:=by
  rcases Ws (i*sz+j) ds.length with h' | h'
  ·rw [hr];~h'
  ·rw [Wg h'] at hd';cases hd'
 ~⟨vs[i*sz+j],by simp [hlt],(h1 _ _ d (Wa hlt) hd').ext he⟩
theorem QbT{z:Array Value}{n:Nat}(hz:0<z.size){j:Nat}(hj:j<n):(madeCells z n)[j]?=z[j%z.size]?:=by
 have:j%z.size<z.size:=UV _ hz
 simp [madeCells,hj,this]
theorem r_makeZ{t e:Nat}{l c:Operand}{tt td:TyD}{k:IntKind}{n:Nat}(ho:o.op = .makeSlice t l c)(ht:QF P t tt)(hk:tt.k = .slice e)(he:QF P e td)(hl:opd env l = .lit (.int k (n:Int)))(hc:opd env c = .lit (.int k (n:Int)))
  (hb:td.bytes*n<=281474976710656)(hm:n<=9223372036854775807)(hz0:td.zero.length=td.size)(h0:0<td.size)(zz:List DV)(hz:zz.length=td.size)(hzr:∀ (j:Nat) d,zz[j]?=some d->td.zero[j]?=some d\/(td.zero[j]?=some (.lit (.slice none 0 0))/\d = .sl [])) :
  Qv P o env sto nxt ⟨.own nxt 0 n,[(nxt,some ⟨td.size,true,false,List.replicate n zz⟩)],[],1⟩:=.ran λF m a hI hE hH hF=>by
 have h1:=hE l (by simp [ho,Op.operands])
 have h2:=hE c (by simp [ho,Op.operands])
 rw [hl] at h1
 rw [hc] at h2
 have hu:=ht.kind
 rw [hk] at hu
 ð⟨i,z,z1,z2,z3,z4,z5,z6,_⟩:=QbN he
 have hsz:z.cells.size=td.size:=by rw [<- hz0,<- z5];simp
 have hb2:(i.bytes:Int)*(n:Int)<=281474976710656:=by
  have h:((td.bytes*n:Nat):Int)<=281474976710656:=by omega
  rw [z3]
  rwa [Int.natCast_mul] at h
 have hrun:=run_make (P:=P) m.w t e i z hu z1 z4 k k n n Oo (Vo _) hb2 Oo
 simp only [Wd] at hrun
 &Ran.new hI (hF nxt (Wl _) (by show nxt<nxt+1;omega)) (cur:=madeCells z.cells (n*i.size)) (T:=e) (v:=.slice (some ⟨m.w.heap.size,0,none⟩) n n) (cap:=n) ?_ (λm' h=>?_) rfl (λm' he' hg=>?_) (.inl rfl)
 ·simp [execOp,ho,h1.lit_inv,h2.lit_inv,hrun]
 ·have:=Rep.own (m:=m') (off:=0) (len:=n) h rfl Oo (by unfold maxLen;omega)
  simpa using this
 ·have hg':m'.w.heap[m.w.heap.size]?=some (.cells (madeCells z.cells (n*i.size)).toList.toArray e (0,0)):=by simpa using hg
  &Qdl he' (ds:=(List.replicate n zz).flatten) (by rw [WG,size_madeCells,z2,U1,U6,hz,List.sum_replicate_nat]) (λj v d hv hd=>?_) hg' (by simp [hz]) h0 (by unfold maxLen;omega) Os (λj x hx=>?_)
  ·have hj:j<n*td.size:=by
    rcases Ws j (n*td.size) with h' | h'
    ·~h'
    ·rw [Wg (by simp [hz];~h')] at hd;cases hd
   have hv':(madeCells z.cells (n*i.size))[j]?=some v:=by simpa using hv
   rw [QbT Oo (by rw [z2];~hj)] at hv'
   have hd':zz[j%td.size]?=some d:=by
    have key:∀ (n j:Nat),j<n*td.size->(List.replicate n zz).flatten[j]?=zz[j%td.size]?:=by
     intro n
     induction n with
     | zero=>intro j hj;omega
     | succ n ih =>
      intro j hj
      rw [U2,Vi]
      by_cases hlt:j<td.size
      ·rw [WM Oo,VC hlt]
      ·rw [WO Oo,hz,ih _ (by rw [Vq] at hj;omega),Nat.mod_eq_sub_mod (a:=j) Oo]
    rw [<- key n j hj];~hd
   have:z.cells.toList[j%td.size]?=some v:=by rw [hsz] at hv';simpa using hv'
   rcases hzr _ _ hd' with hq | ⟨hq,rfl⟩
   ·rw [<- z5,Wh] at hq
    rw [this] at hq
    injection hq with hq
    subst hq
    ~⟨z6 v (by simpa using List.mem_of_getElem? this),.lit v (z6 v (by simpa using List.mem_of_getElem? this))⟩
   ·rw [<- z5,Wh] at hq
    rw [this] at hq
    injection hq with hq
    injection hq with hq
    subst hq
    ~⟨rfl,PRep.nil _ _ (WT _)⟩
  ·have hi:j<n:=by
    rcases Ws j n with h' | h'
    ·~h'
    ·rw [Wg (by simpa using h')] at hx;cases hx
   rw [VR,if_pos hi] at hx
   injection hx with hx
   subst hx
   &⟨hz,λq d hd=>?_⟩
   have hq:q<td.size:=by
    rcases Ws q td.size with h' | h'
    ·~h'
    ·rw [Wg Oo] at hd;cases hd
   have key:∀ (n j:Nat),j<n->(List.replicate n zz).flatten[j*td.size+q]?=zz[q]?:=by
    intro n
    induction n with
    | zero=>intro j hj;omega
    | succ n ih =>
     intro j hj
     rw [U2,Vi]
     cases j with
     | zero=>rw [Un,WS,WM Oo]
     | succ j=>rw [Vq,WO Oo,hz,show j*td.size+td.size+q-td.size=j*td.size+q by omega,ih j Oo]
   rw [key n j hi];~hd
theorem r_make{t e:Nat}{l c:Operand}{tt td:TyD}{k:IntKind}{n:Nat}(ho:o.op = .makeSlice t l c)(ht:QF P t tt)(hk:tt.k = .slice e)(he:QF P e td)(hl:opd env l = .lit (.int k (n:Int)))(hc:opd env c = .lit (.int k (n:Int)))
  (hb:td.bytes*n<=281474976710656)(hm:n<=9223372036854775807)(hz:td.zero.length=td.size)(h0:0<td.size) :
  Qv P o env sto nxt ⟨.own nxt 0 n,[(nxt,some ⟨td.size,true,false,List.replicate n td.zero⟩)],[],1⟩:=r_makeZ ho ht hk he hl hc hb hm hz h0 td.zero hz λ_ _ h=>.inl h
theorem deep_get{s:Nat}{ob:Ob}{e:Ent}{g cap:Nat}(h:Holds m s ob)(he:m.σ s=some (some e))(hb:e.blk=some (g,cap)):Deep m e.inn ob g:=by
 ð⟨e',h1,_,_,h4⟩:=h
 rw [he] at h1
 injection h1 with h1
 injection h1 with h1
 subst h1
 rw [hb] at h4
 ~h4.2
theorem Deep.set{m':Mem}{inn:Nat->Prop}{ob:Ob}{g cap T:Nat}{cur:Array Value}(d:Deep m inn ob g)(r:Row m ob g cap)(hcur:m.w.heap[g]?=some (.cells cur T (0,0))){i j:Nat}{y cs:List DV}{vs:List Value}(hfit:i*ob.esz+j+vs.length<=cur.size)(he:Ext m m')(hy:ob.els[i]?=some y)(hj:j+cs.length<=y.length)
  (hcs:∀ (j:Nat) z xs,cs[j]?=some (.dp z xs)->False)(hl:vs.length=cs.length)(hg:m'.w.heap[g]?=some (.cells (cur.toList.take (i*ob.esz+j)++vs++cur.toList.drop (i*ob.esz+j+vs.length)).toArray T (0,0)))
  (ho:∀ b,b≠g->m'.w.heap[b]?=m.w.heap[b]?)(hni:¬ inn g):Deep m' inn { ob with els:=ob.els.set i (setCells y j cs) } g:=by
 ð⟨B,d1,d2⟩:=d
 have hyl:=r.sz i y hy
 have hi:i<ob.els.length:=by
  rcases Ws i ob.els.length with h' | h'
  ·~h'
  ·rw [Wg h'] at hy;cases hy
 have key:∀ (i':Nat) x (j':Nat) z xs,(ob.els.set i (setCells y j cs))[i']?=some x->x[j']?=some (.dp z xs)->∃ x0,ob.els[i']?=some x0/\x0[j']?=some (.dp z xs)/\(i'=i->j' < j\/j+cs.length<=j'):=λi' x j' z xs h1 h2=>by
  by_cases hii:i'=i
  ·subst hii
   rw [WD hi] at h1
   injection h1 with h1
   subst h1
   rw [Qba cs y j hj] at h2
   &⟨y,hy,?_⟩
   split at h2
   ·rename_i hlt;~⟨h2,λ_=>.inl hlt⟩
   ·split at h2
    ·~(hcs _ _ _ h2).elim
    ·rename_i h3 h4;~⟨h2,λ_=>.inr Oo⟩
  ·rw [WC (λh=>hii h.symm)] at h1
   ~⟨x,h1,h2,λh=>absurd h hii⟩
 &⟨B,λi' x j' z xs h1 h2=>?_,d2⟩
 dsimp only at h1 ⊢
 ð⟨x0,k1,k2,k3⟩:=key i' x j' z xs h1 h2
 ð⟨u,q1,q2⟩:=d1 i' x0 j' z xs k1 k2
 have hx0:=r.sz i' x0 k1
 have hj':j' < ob.esz:=by
  rcases Ws j' x0.length with h' | h'
  ·omega
  ·rw [Wg h'] at k2;cases k2
 &⟨u,?_,?_⟩
 ·rw [cell_of_row m'.w g _ _ T (0,0) hg]
  rw [cell_of_row m.w g _ _ T (0,0) hcur] at q1
  have:=Qel cur.toList vs (i*ob.esz+j) (by simpa using hfit) (i' * ob.esz+j')
  have e1:(cur.toList.take (i*ob.esz+j)++vs++cur.toList.drop (i*ob.esz+j+vs.length)).toArray[i' * ob.esz+j']?=cur[i' * ob.esz+j']?:=by
   rw [UL,this]
   by_cases hii:i'=i
   ·subst hii
    rcases k3 rfl with h | h
    ·rw [if_pos Oo];simp
    ·rw [if_neg Oo,if_neg Oo];simp
   ·rcases Ws i' i with h | h
    ·have:(i'+1)*ob.esz<=i*ob.esz:=WB _ h
     rw [Vq] at this
     rw [if_pos Oo];simp
    ·have:(i+1)*ob.esz<=i' * ob.esz:=WB _ Oo
     rw [Vq] at this
     rw [if_neg Oo,if_neg Oo];simp
  rw [e1];~q1
 ·cases hB:B i' j' with
  | none=>rw [hB] at q2;~q2
  | some b =>
   rw [hB] at q2
   ð⟨p1,cp,p2,p3⟩:=q2
   ~⟨p1,cp,p2,p3.ext he (ho b λh=>hni (h▸p1))⟩
theorem QfQ{t:Nat}{p x:Operand}{td:TyD}{s i j:Nat}{ob:Ob}{y cs:List DV}{r:List Nat}(ho:o.op = .store t p x)(ht:QF P t td)(hp:opd env p = .ptr s i j)(hs:sto.get s=some ob)(hf:ob.frz=false)(ha:ob.arr=false)(hc:Qbe td (opd env x)=some cs)(hb:boxF sto cs=some r)
  (hy:ob.els[i]?=some y)(hj:j+cs.length<=y.length):Qv P o env sto nxt ⟨.any,[(s,some { ob with els:=ob.els.set i (setCells y j cs) })],s :: r,0⟩:=.ran λF m a hI hE hH _=>by
 have h1:=hE p (by simp [ho,Op.operands])
 have h2:=hE x (by simp [ho,Op.operands])
 rw [hp] at h1
 have hS:=hH s Os ob hs
 ð⟨e,g,cap,k1,k2,k3,k4,k5,k6⟩:=QbR h1 hS
 ð⟨vs,q1,q2,q3,q4,q5⟩:=Qgn h2 hc (box_one (Qex hb) λs hs'=>hH s (Wm _ hs'))
 ð⟨cur,T,c1,c2,c3⟩:=k6.cells
 have hyl:=k6.sz i y hy
 have hi:i<ob.els.length:=by
  rcases Ws i ob.els.length with h' | h'
  ·~h'
  ·rw [Wg h'] at hy;cases hy
 have hfit:i*ob.esz+j+vs.length<=cur.size:=by
  have:(i+1)*ob.esz<=cap*ob.esz:=WB _ (by have:=k6.len;omega)
  rw [Vq] at this
  omega
 have hrun:=store_run (m:=m) ht q1 q2 q4 c1 hfit
 have hT:=turn_at hI k1 (m.w.setRow g (cur.toList.take (i*ob.esz+j)++vs++cur.toList.drop (i*ob.esz+j+vs.length)).toArray) true (λ_=>by rw [k3,hf];rfl) rfl rfl rfl Os (λk hk h=>setRow_other m.w g k _ λhgk=>by
  subst hgk
  have:=h _ k4
  rw [k3,hf] at this
  cases this)
 &⟨undef,_,.inr ⟨by simp [execOp,ho,k5,hrun],rfl⟩,hT.1,hT.2,.any _,λp hp=>?_⟩
 obtain rfl:p=(s,some { ob with els:=ob.els.set i (setCells y j cs) }):=by simpa using hp
 &Holds.of (Qi _ _ _) k2 (by rw [hf];rfl) k4 ?_ ?_
 ·~(k6.set c1 hT.2.toExt hy hj Oo (λn u c hu hc'=>⟨q4 u (Wp hu),by rw [ha];~(q5 n u c hu hc').ext hT.2.toExt⟩) (setRow_heap m.w g cur _ T _ c1)).2
 ·&(deep_get hS k1 k4).set k6 c1 Oo hT.2.toExt hy hj (Qex hb).nodp Oo (setRow_heap m.w g cur _ T _ c1) (λb hb=>setRow_other m.w g b _ λh=>hb h) (hI.wf s e g cap k1 k4)
end
section
variable{P:Program}{F:Fm}{m:Mem}{a:Act}{env:Env}{sto:Sto}{nxt:Nat}{o:Oper}
def frz(m:Mem)(S:List Nat):Mem:=⟨m.w,m.M,λj=>if j∈S then (m.σ j).map (λx=>x.map λe=>{ e with mu:=false }) else m.σ j⟩
theorem frz_in{S:List Nat}{s:Nat}(hs:s∈S){x:Option (Option Ent)}(h:m.σ s=x):(frz m S).σ s=x.map (λx=>x.map λe=>{ e with mu:=false }):=by simp [frz,hs,h]
theorem QbY{S:List Nat}{s:Nat}{e:Ent}(h:(frz m S).σ s=some (some e)):∃ e0,m.σ s=some (some e0)/\e.esz=e0.esz/\e.blk=e0.blk/\(e.mu=true->e0.mu=true)/\e.inn=e0.inn:=by
 by_cases hs:s∈S
 ·rw [frz_in hs rfl] at h
  cases hx:m.σ s with
  | none=>rw [hx] at h;cases h
  | some x =>
   rw [hx] at h
   cases x with
   | none=>simp at h
   | some e0 =>
    simp only [Wu,Wx] at h
    subst h
    ~⟨e0,rfl,rfl,rfl,(λh=>by cases h),rfl⟩
 ·have:m.σ s=some (some e):=by simpa [frz,hs] using h
  ~⟨e,this,rfl,rfl,id,rfl⟩
theorem QeM{F:Fm}(hI:Inv F m)(S:List Nat):Inv F (frz m S)/\Loc S m (frz m S):=by
 &turn hI S m.w _ rfl rfl rfl (Wl _) (λ_ _ _=>rfl) (λs hs=>by simp [hs]) (λs hs x hx=>?_) (λs hs e' g h1 h2=>?_) (λs hs e' g c h1 h2=>?_)
 ·&⟨x.map λe=>{ e with mu:=false },by simp [hs,hx],λe' he=>?_⟩
  cases x with
  | none=>cases he
  | some e=>simp only [Wu,Wx] at he;subst he;~⟨e,rfl,rfl,rfl⟩
 ·ð⟨e0,k1,k2,k3,k4,k5⟩:=QbY (m:=m) (S:=S) (s:=s) (by simpa [frz] using h1)
  replace h2:=Ent.has_eq k3 k5 h2
  &.inl ⟨s,hs,e0,k1,h2,k4,λs1 hs1 e1 h3 h4=>?_⟩
  ð⟨e0',j1,j2,j3,j4,j5⟩:=QbY (m:=m) (S:=S) (s:=s1) (by simpa [frz] using h3)
  ~hI.inj s1 s e0' e0 g j1 k1 (Ent.has_eq j3 j5 h4) h2
 ·ð⟨e0,k1,k2,k3,k4,k5⟩:=QbY (m:=m) (S:=S) (s:=s) (by simpa [frz] using h1)
  rw [k5]
  ~hI.wf s e0 g c k1 (by rw [<- k3];~h2)
theorem frz_holds{F:Fm}(hI:Inv F m){S:List Nat}{s:Nat}(hs:s∈S){ob:Ob}(h:Holds m s ob):Holds (frz m S) s { ob with frz:=true }:=by
 have hL:=(QeM hI S).2
 ð⟨e,h1,h2,h3,h4⟩:=h
 &⟨{ e with mu:=false },by rw [frz_in hs h1];rfl,h2,rfl,?_⟩
 cases hb:e.blk with
 | none=>rw [hb] at h4;~h4
 | some p =>
  ð⟨g,cap⟩:=p
  rw [hb] at h4
  have:=Row.ext hL.toExt h4.1 rfl
  ~⟨⟨this.cells,this.len,this.max,this.pos,this.sz⟩,h4.2.ext hL.toExt rfl λ_ _=>rfl⟩
theorem frz_keeps{F:Fm}(hI:Inv F m){S:List Nat}{s:Nat}{ob:Ob}(h:Holds m s ob)(hS:s∉S):Holds (frz m S) s ob:=Holds.loc hI (QeM hI S).2 hS h
theorem not_no_has{F:Fm}(hI:Inv F m){s:Nat}{e:Ent}{g:Nat}(he:m.σ s=some (some e))(hb:e.has g)(hm:e.mu=false):¬ m.no g:=by
 rintro (h | ⟨s',e',h1,h2,h3⟩)
 ·~(hI.at_ s e g he hb).2.1 h
 ·have:=hI.inj s s' e e' g he h1 hb h3
  subst this
  rw [he] at h1
  injection h1 with h1
  injection h1 with h1
  subst h1
  rw [hm] at h2
  cases h2
theorem QeU{F:Fm}(hI:Inv F m){s:Nat}{e:Ent}{g cap:Nat}(he:m.σ s=some (some e))(hb:e.blk=some (g,cap))(hm:e.mu=false):¬ m.no g:=not_no_has hI he (Ent.has_blk hb) hm
def pure1(sto:Sto):DV->Option (DV×List Nat)
 | .lit v=>some (.lit v,[])
 | .sl xs=>some (.sl xs,[])
 | .own s off len=>match sto.get s with
  | some ob=>if ob.arr=true/\off+len<=ob.els.length then some (.sl ((ob.els.drop off).take len),[s]) else none
  | none=>none
 | _=>none
def QaH(sto:Sto):List DV->Option (List DV×List Nat)
 | []=>some ([],[])
 | d :: l=>match pure1 sto d,QaH sto l with | some (a,u),some (b,v)=>some (a :: b,u++v) | _,_=>none
def Qdr(sto:Sto):List Nat->List (Nat×Option Ob)
 | []=>[]
 | s :: l=>match sto.get s with
  | some ob=>(s,some { ob with frz:=true }) :: Qdr sto l
  | none=>Qdr sto l
theorem frzU_upd{F:Fm}(hI:Inv F m){S l:List Nat}(hl:∀ s∈l,s∈S)(hH:QU m sto l):∀ p∈Qdr sto l,Upd (frz m S) p:=by
 induction l with
 | nil=>intro p hp;cases hp
 | cons s l ih =>
  intro p hp
  unfold Qdr at hp
  have ih:=ih (λs h=>hl s (Wm _ h)) (λs h=>hH s (Wm _ h))
  split at hp
  ·rename_i ob hob
   rcases Wt.1 hp with rfl | hp
   ·~frz_holds hI (hl s Os) (hH s Os ob hob)
   ·~ih p hp
  ·~ih p hp
theorem pure1_ok{F:Fm}(hI:Inv F m){c c':DV}{us:List Nat}(h:pure1 sto c=some (c',us))(hS:QU m sto us){S:List Nat}(hsub:∀ s∈us,s∈S){u:Value}(hr:Rep m u c) :
  u.oneCell'=true/\PRep m.w (frz m S).no u c':=by
 have hE:=(QeM hI S).2.toExt
 cases c with
 | lit v =>
  unfold pure1 at h
  dsimp only at h
  injection h with h
  injection h with h1 h2
  subst h1
  rw [hr.lit_inv]
  ~⟨hr.lit_one,.lit v hr.lit_one⟩
 | sl xs =>
  unfold pure1 at h
  injection h with h
  injection h with h1 h2
  subst h1
  ~⟨QdQ hr.sl_inv,hr.sl_inv.ext hE.size hE.keep⟩
 | own s off len =>
  unfold pure1 at h
  dsimp only at h
  split at h
  ·rename_i ob hob
   by_cases hc:ob.arr=true/\off+len<=ob.els.length
   ·rw [if_pos hc] at h
    injection h with h
    injection h with h1 h2
    subst h1
    ð⟨ha,hl⟩:=hc
    have hin:s∈us:=by rw [<- h2];simp
    ð⟨e,k1,k2,k3,k6⟩:=X5 hr (hS s hin ob hob)
    rcases k6 with ⟨g,cap,k6,rfl,k7,k8⟩ | ⟨k6,rfl,rfl,rfl,k7,k8⟩
    ·&⟨rfl,?_⟩
     have hno:¬ (frz m S).no g:=QeU (QeM hI S).1 (s:=s) (e:={ e with mu:=false }) (cap:=cap) (by rw [frz_in (hsub s hin) k1];rfl) k6 rfl
     &QbS k8 ha hno (λk hk=>?_) hl
     rcases hk with hk | ⟨s',e',h1,h2,h3⟩
     ·~.inl hk
     ·ð⟨e0,j1,j2,j3,j4,j5⟩:=QbY h1
      ~.inr ⟨s',e0,j1,j4 h2,Ent.has_eq j3 j5 h3⟩
    ·&⟨rfl,?_⟩
     rw [k7]
     ~.nil _ _ (WT _)
   ·rw [if_neg hc] at h;cases h
  ·cases h
 | _=>unfold pure1 at h;cases h
theorem pureL_ok{F:Fm}(hI:Inv F m){cs cs':List DV}{us:List Nat}(h:QaH sto cs=some (cs',us))(hS:QU m sto us){S:List Nat}(hsub:∀ s∈us,s∈S) :
  cs'.length=cs.length/\∀ (i:Nat) c u,cs[i]?=some c->Rep m u c->u.oneCell'=true/\∀ c',cs'[i]?=some c'->PRep m.w (frz m S).no u c':=by
 induction cs generalizing cs' us with
 | nil =>
  unfold QaH at h
  injection h with h
  injection h with h1 h2
  subst h1
  ~⟨rfl,λi c u hc=>by simp at hc⟩
 | cons d l ih =>
  unfold QaH at h
  split at h
  ·rename_i a u b v ha hb
   injection h with h
   injection h with h1 h2
   subst h1
   subst h2
   ð⟨i1,i2⟩:=ih hb (λs hs=>hS s (Wj _ hs)) λs hs=>hsub s (Wj _ hs)
   &⟨by simp [i1],λi c x hc hx=>?_⟩
   cases i with
   | zero =>
    simp only [WJ,Wx] at hc
    subst hc
    ð⟨k1,k2⟩:=pure1_ok hI ha (λs hs=>hS s (Wf _ hs)) (λs hs=>hsub s (Wf _ hs)) hx
    ~⟨k1,λc' hc'=>by simp only [WJ,Wx] at hc';~hc'▸k2⟩
   | succ i =>
    ð⟨k1,k2⟩:=i2 i c x (by simpa using hc) hx
    ~⟨k1,λc' hc'=>k2 c' (by simpa using hc')⟩
  ·cases h
theorem Ran.after{F:Fm}{S:List Nat}{d:DV}{us vs:List (Nat×Option Ob)}(hI:Inv F m)(h:Ran P F o a (frz m S) d us)(hS:∀ s∈S,s∈vs.map (·.1))(hv:∀ p∈vs,Upd (frz m S) p)(hd:∀ p∈vs,p.1∉us.map (·.1)):Ran P F o a m d (us++vs):=by
 ð⟨v,m',h1,h2,h3,h4,h5⟩:=h
 ð⟨hI1,hL1⟩:=QeM hI S
 have hL:=Loc.trans hL1 h3 λs e g he hb hg hs=>by
  ð⟨e0,k1,k2,k3,_,k5⟩:=QbY he
  ~⟨s,e0,k1,Ent.has_eq k3 k5 hb,hs⟩
 &⟨v,m',h1,h2,⟨hL.toExt,λs hs=>hL.same s λh=>hs ?_,λk hk hn=>hL.blk k hk λs e he hb h=>hn s e he hb ?_⟩,h4,λp hp=>?_⟩
 ·rw [WH,Wn]
  rcases Wn.1 h with h | h
  ·~.inr (hS s h)
  ·~.inl h
 ·rw [WH,Wn]
  rcases Wn.1 h with h | h
  ·~.inr (hS s h)
  ·~.inl h
 ·rcases Wn.1 hp with hp | hp
  ·~h5 p hp
  ·have hu:=hv p hp
   have hne:=hd p hp
   unfold Upd at hu ⊢
   cases hq:p.2 with
   | some ob=>rw [hq] at hu;~Holds.loc hI1 h3 hne hu
   | none=>rw [hq] at hu;dsimp only at hu ⊢;rw [h3.same p.1 hne];~hu
theorem frzU_names{l:List Nat}(h:∀ s∈l,(sto.get s).isSome=true):(Qdr sto l).map (·.1)=l:=by
 induction l with
 | nil=>rfl
 | cons s l ih =>
  ð⟨ob,hob⟩:=VL.1 (h s Os)
  simp only [Qdr,hob,Vg,ih λs hs=>h s (by simp [hs])]
theorem pure1_some{c c':DV}{us:List Nat}(h:pure1 sto c=some (c',us)):∀ s∈us,(sto.get s).isSome=true:=by
 unfold pure1 at h
 split at h
 ·injection h with h;injection h with _ h;subst h;intro s hs;cases hs
 ·injection h with h;injection h with _ h;subst h;intro s hs;cases hs
 ·split at h
  ·rename_i ob hob
   split at h
   ·injection h with h;injection h with _ h;subst h
    intro s hs
    obtain rfl:=Wo.1 hs
    rw [hob];rfl
   ·cases h
  ·cases h
 ·cases h
theorem Qen{cs cs':List DV}{us:List Nat}(h:QaH sto cs=some (cs',us)):∀ s∈us,(sto.get s).isSome=true:=by
 induction cs generalizing cs' us with
 | nil=>unfold QaH at h;injection h with h;injection h with _ h;subst h;intro s hs;cases hs
 | cons d l ih =>
  unfold QaH at h
  split at h
  ·rename_i a u b v ha hb
   injection h with h
   injection h with _ h
   subst h
   intro s hs
   rcases Wn.1 hs with hs | hs
   ·~pure1_some ha s hs
   ·~ih hb s hs
  ·cases h
theorem r_storeA{t:Nat}{p x:Operand}{td:TyD}{s i j:Nat}{ob:Ob}{y cs cs':List DV}{us:List Nat}(ho:o.op = .store t p x)(ht:QF P t td)(hp:opd env p = .ptr s i j)(hs:sto.get s=some ob)(hf:ob.frz=false)(ha:ob.arr=true)(hc:Qbe td (opd env x)=some cs)(hpu:QaH sto cs=some (cs',us))
  (hn:us.contains s=false)(hy:ob.els[i]?=some y)(hj:j+cs.length<=y.length):Qv P o env sto nxt ⟨.any,(s,some { ob with els:=ob.els.set i (setCells y j cs') }) :: Qdr sto us,s :: us,0⟩:=.ran λF m a hI hE hH _=>by
 have h1:=hE p (by simp [ho,Op.operands])
 have h2:=hE x (by simp [ho,Op.operands])
 rw [hp] at h1
 have hns:s∉us:=λh=>by simp [h] at hn
 have hHu:QU m sto us:=λs hs'=>hH s (Wm _ hs')
 ð⟨hIf,hLf⟩:=QeM hI us
 ð⟨pl,pk⟩:=pureL_ok hI hpu hHu (S:=us) λ_ h=>h
 have hSf:Holds (frz m us) s ob:=Holds.loc hI hLf hns (hH s Os ob hs)
 have h1f:Rep (frz m us) (a.eval p) (.ptr s i j):=h1.ext hLf.toExt
 ð⟨e,g,cap,k1,k2,k3,k4,k5,k6⟩:=QbR h1f hSf
 ð⟨vs,q1,q2,q3,q4,q5⟩:=Qgn h2 hc λi c u hc hr=>(pk i c u hc hr).1
 ð⟨cur,T,c1,c2,c3⟩:=k6.cells
 have hyl:=k6.sz i y hy
 have hi:i<ob.els.length:=by
  rcases Ws i ob.els.length with h' | h'
  ·~h'
  ·rw [Wg h'] at hy;cases hy
 have hfit:i*ob.esz+j+vs.length<=cur.size:=by
  have:(i+1)*ob.esz<=cap*ob.esz:=WB _ (by have:=k6.len;omega)
  rw [Vq] at this
  omega
 have hrun:=store_run (m:=frz m us) ht q1 q2 q4 c1 hfit
 have hT:=turn_at hIf k1 ((frz m us).w.setRow g (cur.toList.take (i*ob.esz+j)++vs++cur.toList.drop (i*ob.esz+j+vs.length)).toArray) true (λ_=>by rw [k3,hf];rfl) rfl rfl rfl Os (λk hk h=>setRow_other _ g k _ λhgk=>by
  subst hgk
  have:=h _ k4
  rw [k3,hf] at this
  cases this)
 have hnames:=frzU_names (sto:=sto) (l:=us) (Qen hpu)
 &Ran.after (S:=us) (us:=[(s,some { ob with els:=ob.els.set i (setCells y j cs') })]) hI ⟨undef,_,.inr ⟨by simp [execOp,ho,k5,hrun],rfl⟩,hT.1,hT.2,.any _,λp hp=>?_⟩ (λs h=>by rw [hnames];~h) (frzU_upd hI (λ_ h=>h) hHu) (λp hp h=>?_)
 ·obtain rfl:p=(s,some { ob with els:=ob.els.set i (setCells y j cs') }):=by simpa using hp
  have row:=(k6.set (cs:=cs') c1 hT.2.toExt hy Oo Oo (λn u c hu hc'=>?_) (setRow_heap _ g cur _ T _ c1)).2
  ·~Holds.of (Qi _ _ _) k2 (by rw [hf];rfl) k4 row (row.deep ha _)
  have hlt:n<cs.length:=by
   rcases Ws n cs'.length with h' | h'
   ·omega
   ·rw [Wg h'] at hc';cases hc'
  ð⟨z1,z2⟩:=pk n _ u (Wa hlt) (q5 n u _ hu (Wa hlt))
  &⟨z1,?_⟩
  rw [ha]
  ~(z2 c hc').ext hT.2.size hT.2.keep
 ·have:p.1∈us:=by rw [<- hnames];~W0 hp
  obtain h:p.1=s:=by simpa using h
  ~hns (h▸this)
end
section
variable{P:Program}{F:Fm}{m:Mem}{a:Act}{env:Env}{sto:Sto}{nxt:Nat}{o:Oper}
def Qbd(len sz:Nat)(cs:List DV):List (List DV):=(List.range len).map λi=>(cs.drop (i*sz)).take sz
def Qdk(td:TyD)(len:Nat):List DV:=(List.range (len*td.size)).map λj=>td.zero.getD (j%td.size) .any
theorem fillD_len{z:Nat}:∀ {ps:List (Nat×DV)} {cs cells:List DV} {r:List Nat},Qds sto (λi=>some (i*z,z)) cs ps=some (cells,r)->cells.length=cs.length:=by
 intro ps
 induction ps with
 | nil=>intro cs cells r h;simp only [Qds,Wx,Uh] at h;rw [h.1]
 | cons p ps ih =>
  intro cs cells r h
  ð⟨i,x⟩:=p
  simp only [Qds] at h
  split at h
  ·cases h
  ·split at h
   ·split at h
    ·rename_i hf
     simp only [Wx,Uh] at h
     ð⟨rfl,rfl⟩:=h
     rw [ih hf,JE]
    ·cases h
   ·cases h
theorem r_lit{t e len:Nat}{parts:Array (Nat×Operand)}{l:List (Nat×Operand)}{tt td:TyD}{cells cells':List DV}{r us:List Nat}(ho:o.op = .buildSlice t len parts)(hp:parts=l.toArray)(ht:QF P t tt)(hk:tt.k = .slice e)(he:QF P e td)
  (hz:td.zero.length=td.size)(h0:0<td.size)(h1:0<len)(hm:len*td.size<=16777216)
  (h:Qds sto (λi=>some (i*td.size,td.size)) (Qdk td len) (l.map λp=>(p.1,opd env p.2))=some (cells,r))(hpu:QaH sto cells=some (cells',us)) :
  Qv P o env sto nxt ⟨.own nxt 0 len,(nxt,some ⟨td.size,true,false,Qbd len td.size cells'⟩) :: Qdr sto us,r++us,1⟩:=.ran λF m a hI hE hH hF=>by
 subst hp
 ð⟨i,z,z1,z2,z3,z4,z5,z6,_⟩:=QbN he
 have hu:=ht.kind
 rw [hk] at hu
 have hsz:z.cells.size=td.size:=by rw [<- hz,<- z5];simp
 have hHr:QU m sto r:=λs hs=>hH s (Wf _ hs)
 have hHu:QU m sto us:=λs hs=>hH s (Wj _ hs)
 ð⟨hIf,hLf⟩:=QeM hI us
 have hzr:Reps m (madeCells z.cells (len*td.size)).toList (Qdk td len):=by
  &⟨by rw [WG,size_madeCells];simp [Qdk],λj v d hv hd=>?_⟩
  have hj:j<len*td.size:=by
   rcases Ws j (len*td.size) with h' | h'
   ·~h'
   ·rw [Wg (by simpa [Qdk] using h')] at hd;cases hd
  have hv':(madeCells z.cells (len*td.size))[j]?=some v:=by simpa using hv
  rw [QbT Oo hj,hsz] at hv'
  unfold Qdk at hd
  rw [Wh,VB hj] at hd
  injection hd with hd
  have hv2:z.cells.toList[j%td.size]?=some v:=by simpa using hv'
  rw [<- hd]
  dsimp only
  rw [<- z5,VI,Wh,hv2]
  ~.pure (.lit v (z6 v (by simpa using List.mem_of_getElem? hv2)))
 ð⟨vs,k1,k2⟩:=Qfy (parts:=l) (λp hp=>hE p.2 (by simp only [ho,Op.operands];simp;~⟨p.1,hp⟩)) hzr h hHr
 rw [UU] at k1
 have hcl:cells.length=len*td.size:=by
  rw [fillD_len h]
  simp [Qdk]
 have hrun:=run_buildSlice (P:=P) m.w t e len (l.map λp=>(p.1,a.eval p.2)).toArray vs.toArray i z hu z1 z4 (by rw [z2];omega) (by rw [z2];have:=Nat.mul_pos h1 h0;omega) (by
  rw [z2]
  have:(Array.range (len*td.size)).map (λx=>z.cells[x%z.cells.size]!)=madeCells z.cells (len*td.size):=rfl
  rw [this]
  simpa using k1)
 have hmx:len<=maxLen:=by
  have:len<=len*td.size:=YJ _ h0
  unfold maxLen
  omega
 ð⟨pl,pk⟩:=pureL_ok hI hpu hHu (S:=us) λ_ h=>h
 have hnames:=frzU_names (sto:=sto) (l:=us) (Qen hpu)
 have hnf:m.σ nxt=none:=hF nxt (Wl _) (by show nxt<nxt+1;omega)
 have hnu:nxt∉us:=λhin=>by
  ð⟨ob,hob⟩:=VL.1 (Qen hpu nxt hin)
  ð⟨e',he',_⟩:=hHu nxt hin ob hob
  rw [hnf] at he';cases he'
 &Ran.after (S:=us) (us:=[(nxt,some ⟨td.size,true,false,Qbd len td.size cells'⟩)]) hI ?_ (λs h=>by rw [hnames];~h) (frzU_upd hI (λ_ h=>h) hHu) (λp hp h=>?_)
 ·&Ran.new hIf (by simpa [frz,hnu] using hnf) (cur:=vs.toArray) (T:=e) (v:=.slice (some ⟨m.w.heap.size,0,none⟩) len len) (cap:=len) ?_ (λm' h=>?_) rfl (λm' he' hg=>?_) (.inl rfl)
  ·simp only [execOp,ho]
   rw [show (l.toArray.map λ(x:Nat×Operand)=>match x with | (i,x)=>(i,a.eval x))=(l.map λp=>(p.1,a.eval p.2)).toArray from by simp]
   rw [Sem.run_bind]
   show ((Instr.buildSlice t len _).run P m.w).andThen _=_
   rw [hrun]
   rfl
  ·have:=Rep.own (m:=m') (off:=0) (len:=len) h rfl Oo hmx
   simpa [frz] using this
  ·&Qdl he' (ds:=cells') (by rw [k2.1,pl]) (λj v d hv hd=>?_) hg (by rw [pl,hcl]) h0 hmx (by simp [Qbd]) (λj x hx=>?_)
   ·have hlt:j<cells.length:=by
     rcases Ws j cells'.length with h' | h'
     ·omega
     ·rw [Wg h'] at hd;cases hd
    ð⟨q1,q2⟩:=pk j _ v (Wa hlt) (k2.2 j v _ hv (Wa hlt))
    ~⟨q1,q2 d hd⟩
   ·have hj:j<len:=by
     rcases Ws j len with h' | h'
     ·~h'
     ·rw [Wg (by simpa [Qbd] using h')] at hx;cases hx
    unfold Qbd at hx
    rw [Wh,VB hj] at hx
    injection hx with hx
    subst hx
    have hle:(j+1)*td.size<=len*td.size:=WB _ hj
    rw [Vq] at hle
    &⟨by rw [Wi,Ww,pl,hcl];omega,λq d hd=>?_⟩
    rw [WL] at hd
    split at hd
    ·rwa [W2] at hd
    ·cases hd
 ·have:p.1∈us:=by rw [<- hnames];~W0 hp
  obtain h:p.1=nxt:=by simpa using h
  ~hnu (h▸this)
def elsF(sto:Sto):DV->Option (List (List DV)×List Nat)
 | .lit (.slice none 0 0)=>some ([],[])
 | .sl xs=>some (xs,[])
 | .own s off len=>match sto.get s with
  | some ob=>if ob.arr=true/\off+len<=ob.els.length then some ((ob.els.drop off).take len,[s]) else none
  | none=>none
 | _=>none
structure VCells(m:Mem)(v:Value)(sz:Nat)(ys:List (List DV)):Prop where
 ex:∃ ad c,v = .slice ad ys.length c/\(ys=[]\/∃ b off,∃ news:List Value,ad=some ⟨b,off,none⟩/\news.length=ys.length*sz/\(∀ j u,news[j]?=some u->m.w.cell? ((⟨b,off,none⟩:Addr).add j)=some u)/\(∀ u∈news,u.oneCell'=true) /\
  ∀ (i:Nat) y (j:Nat) d,ys[i]?=some y->y[j]?=some d->∃ u,news[i*sz+j]?=some u/\PRep m.w m.no u d)
theorem vcells_mk{b off c sz:Nat}{ys:List (List DV)}(h0:0<sz)(hsz:∀ y∈ys,y.length=sz)(f:Nat->Nat->Value)(h1:∀ (i:Nat) y (j:Nat) d,ys[i]?=some y->y[j]?=some d->m.w.cell? ⟨b,off+i*sz+j,none⟩=some (f i j)/\PRep m.w m.no (f i j) d):VCells m (.slice (some ⟨b,off,none⟩) ys.length c) sz ys:=by
 have at_:∀ p,p<ys.length*sz->p/sz<ys.length/\p%sz<sz/\p/sz*sz+p%sz=p:=λp hp =>
  ⟨Vt (by rw [VE];~hp),UV _ h0,Nat.div_add_mod' p sz⟩
 have get:∀ p,p<ys.length*sz->∃ y d,ys[p/sz]?=some y/\y[p%sz]?=some d:=λp hp=>by
  ð⟨k1,k2,_⟩:=at_ p hp
  have hy:=hsz ys[p/sz] (Wc k1)
  ~⟨_,_,Wa k1,Wa Oo⟩
 &⟨_,c,rfl,.inr ⟨b,off,(List.range (ys.length*sz)).map λp=>f (p/sz) (p%sz),rfl,Os,λp u hu=>?_,λu hu=>?_,λi y j d hy hd=>?_⟩⟩
 ·have hp:p<ys.length*sz:=by
   rcases Ws p (ys.length*sz) with h' | h'
   ·~h'
   ·rw [Wg (by simpa using h')] at hu;cases hu
  rw [Wh,VB hp] at hu
  injection hu with hu
  ð⟨y,d,hy,hd⟩:=get p hp
  have:=(h1 _ y _ d hy hd).1
  rw [show off+p/sz*sz+p%sz=off+p by have:=(at_ p hp).2.2;omega] at this
  rw [add_lit,this,<- hu]
 ·ð⟨p,hp,rfl⟩:=Wk.1 hu
  ð⟨y,d,hy,hd⟩:=get p (Wz.1 hp)
  ~QdQ (h1 _ y _ d hy hd).2
 ·have hi:i<ys.length:=by
   rcases Ws i ys.length with h' | h'
   ·~h'
   ·rw [Wg h'] at hy;cases hy
  have hj:j<sz:=by
   rw [<- hsz y (Wp hy)]
   rcases Ws j y.length with h' | h'
   ·~h'
   ·rw [Wg h'] at hd;cases hd
  have hle:(i+1)*sz<=ys.length*sz:=WB _ hi
  rw [Vq] at hle
  &⟨f i j,?_,(h1 i y j d hy hd).2⟩
  rw [Wh,VB Oo]
  have e1:(i*sz+j)/sz=i:=by rw [VE,Nat.mul_add_div h0,UY hj,VW]
  have e2:(i*sz+j)%sz=j:=by rw [VE,Nat.mul_add_mod,VC hj]
  rw [Wu,e1,e2]
theorem els_vals{v:Value}{x:DV}{sz:Nat}(h0:0<sz)(hr:Rep m v x){ys:List (List DV)}{rs:List Nat}(h:elsF sto x=some (ys,rs))(hH:QU m sto rs)(hsz:∀ y∈ys,y.length=sz):VCells m v sz ys:=by
 unfold elsF at h
 split at h
 ·injection h with h
  injection h with h1 h2
  subst h1
  rw [hr.lit_inv]
  ~⟨none,0,rfl,.inl rfl⟩
 ·injection h with h
  injection h with h1 h2
  subst h1
  rename_i xs
  ð⟨ad,cap,rfl,k1,k2,k3⟩:=hr.sl_inv.sl_inv
  by_cases hx:xs=[]
  ·~⟨ad,cap,rfl,.inl hx⟩
  ·ð⟨b,off,sz',f,rfl,q1,q2,q3,q4,q5,q6⟩:=k3 hx
   have:sz'=sz:=by
    cases xs with
    | nil=>~absurd rfl hx
    | cons y ys=>rw [<- q4 0 y rfl];~hsz y Os
   subst this
   ~vcells_mk h0 hsz f λi y j d hy hd=>⟨q5 i y j d hy hd,q6 i y j d hy hd⟩
 ·rename_i s off len
  split at h
  ·rename_i ob hob
   split at h
   ·rename_i hc
    ð⟨ha,hl⟩:=hc
    injection h with h
    injection h with h1 h2
    subst h1
    subst h2
    have hlen:((ob.els.drop off).take len).length=len:=by rw [Wi,Ww];omega
    ð⟨e,k1,k2,k3,k6⟩:=X5 hr (hH s Os ob hob)
    rcases k6 with ⟨g,cap,k6,rfl,k7,k8⟩ | ⟨k6,rfl,rfl,rfl,k7,k8⟩
    ·by_cases hy:(ob.els.drop off).take len=[]
     ·&⟨_,_,by rw [hlen],.inl hy⟩
     ·have hget:∀ (i:Nat) x,((ob.els.drop off).take len)[i]?=some x->ob.els[off+i]?=some x:=λi x hx=>by
       rw [WL] at hx
       split at hx
       ·rwa [W2] at hx
       ·cases hx
      have hez:ob.esz=sz:=by
       cases hq:(ob.els.drop off).take len with
       | nil=>~absurd hq hy
       | cons y ys =>
        have h1:=hget 0 y (by rw [hq];rfl)
        rw [<- k8.sz _ y h1]
        ~hsz y (by rw [hq];simp)
      ð⟨cur,T,c1,c2,c3⟩:=k8.cells
      have key:=vcells_mk (m:=m) (b:=g) (off:=off*ob.esz) (c:=cap-off) h0 hsz (λi j=>cur.getD ((off+i)*ob.esz+j) undef) λi y j d hy hd=>by
       ð⟨u,hu,hr⟩:=c3 _ y j d (hget i y hy) hd
       have e1:off*ob.esz+i*sz+j=(off+i)*ob.esz+j:=by rw [Vv,hez]
       rw [cell_of_row m.w g _ cur T (0,0) c1,e1,hu,Vr,hu]
       &⟨rfl,?_⟩
       have:=hr.2
       rw [ha] at this
       ~this
      rw [hlen] at key
      ~key
    ·&⟨none,0,by rw [hlen],.inl ?_⟩
     rw [k7];rfl
   ·cases h
  ·cases h
 ·cases h
theorem JF(w:World)(t ty e:TypeId)(i:TypeInfo)(ht:P.underlying t=some (.slice e))(hi:P.info? e=some i)(b:Option Addr)(sLen sCap:Nat)(hc:sLen<=sCap)(ad:Option Addr)(c:Nat) :
  (Builtin.append_ #[t,t] ty #[.slice b sLen sCap,.slice ad 0 c]).run P w = .ok (.slice b sLen sCap) w:=by
 cases ad <;> cases b <;> simp [Builtin.append_,run_underlying ht,sizeOf,typeInfo,hi,Builtin.lenOf,Builtin.firstCells,hc,storeCells,loadCells,loadCellsFrom]
theorem run_append_room'(w:World)(t ty e T:TypeId)(i:TypeInfo)(ht:P.underlying t=some (.slice e))(hi:P.info? e=some i)
  (g sLen sCap:Nat)(cur:Array Value)(hg:w.heap[g]?=some (.cells cur T (0,0)))
  (a:Addr)(m c:Nat)(news:List Value)(hl:news.length=m*i.size)(hnews:∀ j u,news[j]?=some u->w.cell? (a.add j)=some u)(h1:∀ u∈news,u.oneCell'=true)
  (hroom:sLen+m<=sCap)(hfit:sLen*i.size+news.length<=cur.size) :
  (Builtin.append_ #[t,t] ty #[.slice (some ⟨g,0,none⟩) sLen sCap,.slice (some a) m c]).run P w =
   .ok (.slice (some ⟨g,0,none⟩) (sLen+m) sCap) (w.setRow g (cur.toList.take (sLen*i.size)++news++cur.toList.drop (sLen*i.size+news.length)).toArray):=by
 have hf:=run_firstCells_some (P:=P) w i.size m a m c news hl hnews
 have hst:=run_storeCells_at P g (sLen*i.size) T news 0 cur w hg (by simpa using hfit) h1
 simp only [VW] at hst
 simp [Builtin.append_,run_underlying ht,sizeOf,typeInfo,hi,Builtin.lenOf,hroom,hf,add_lit,hst]
theorem row_twoR{m':Mem}{ar:Bool}{g cap T sz:Nat}{cur:Array Value}(hg:m'.w.heap[g]?=some (.cells cur T (0,0)))(hs:cur.size=cap*sz)(hm:cap<=maxLen)(h0:0<sz){xs ys:List (List DV)}(hc:xs.length+ys.length<=cap)
  (hx:∀ (i:Nat) x,xs[i]?=some x->x.length=sz/\∀ (j:Nat) d,x[j]?=some d->∃ u,cur[i*sz+j]?=some u/\QgN m' ar u d)
  (hy:∀ (i:Nat) y,ys[i]?=some y->y.length=sz/\∀ (j:Nat) d,y[j]?=some d->∃ u,cur[(xs.length+i)*sz+j]?=some u/\QgN m' ar u d):Row m' ⟨sz,ar,false,xs++ys⟩ g cap:=by
 have part:∀ (i:Nat) z,(xs++ys)[i]?=some z->z.length=sz/\∀ (j:Nat) d,z[j]?=some d->∃ u,cur[i*sz+j]?=some u/\QgN m' ar u d:=λi z hz=>by
  by_cases hi:i<xs.length
  ·rw [WM hi] at hz
   ~hx i z hz
  ·rw [WO Oo] at hz
   have:=hy _ z hz
   rwa [show xs.length+(i-xs.length)=i by omega] at this
 ~⟨⟨cur,T,hg,hs,λi x j d hx hd=>(part i x hx).2 j d hd⟩,by simpa using hc,hm,h0,λi x hx=>(part i x hx).1⟩
theorem row_two{m':Mem}{g cap T sz:Nat}{cur:Array Value}(hg:m'.w.heap[g]?=some (.cells cur T (0,0)))(hs:cur.size=cap*sz)(hm:cap<=maxLen)(h0:0<sz){xs ys:List (List DV)}(hc:xs.length+ys.length<=cap)
  (hx:∀ (i:Nat) x,xs[i]?=some x->x.length=sz/\∀ (j:Nat) d,x[j]?=some d->∃ u,cur[i*sz+j]?=some u/\QgN m' true u d)
  (hy:∀ (i:Nat) y,ys[i]?=some y->y.length=sz/\∀ (j:Nat) d,y[j]?=some d->∃ u,cur[(xs.length+i)*sz+j]?=some u/\QgN m' true u d):Row m' ⟨sz,true,false,xs++ys⟩ g cap:=row_twoR hg hs hm h0 hc hx hy
theorem own_mem{w':World}{M:Nat->Prop}{σ:Nat->Option (Option Ent)}{s:Nat}{e:Ent}{g cap len:Nat}(hσ:σ s=some (some e))(hb:e.blk=some (g,cap))(hl:len<=cap)(hm:cap<=maxLen):Rep ⟨w',M,σ⟩ (.slice (some ⟨g,0,none⟩) len cap) (.own s 0 len):=by
 have:=Rep.own (m:=⟨w',M,σ⟩) (off:=0) (len:=len) hσ hb Oo hm
 simpa using this
theorem Qbg{s x:Operand}{t:Nat}{u v r:Value}{w w':World}(ho:o.op = .call ⟨.builtin .append,#[s,x],#[t,t]⟩)(hs:a.eval s=u)(hx:a.eval x=v)(h:(Builtin.append_ #[t,t] o.type #[u,v]).run P w = .ok r w') :
  (execOp a.eval o).run P w = .ok (.value r) w':=by
 simp [execOp,ho,resolve,invoke,builtin,hs,hx,h]
theorem r_appN{t e:Nat}{s x:Operand}{tt td:TyD}{ys:List (List DV)}{rs:List Nat}(ho:o.op = .call ⟨.builtin .append,#[s,x],#[t,t]⟩)(ht:QF P t tt)(hk:tt.k = .slice e)(he:QF P e td)(hs:opd env s = .lit (.slice none 0 0))(hx:elsF sto (opd env x)=some (ys,rs))
  (hz:td.zero.length=td.size)(h0:0<td.size)(hsz:∀ y∈ys,y.length=td.size)(hb:ys.length*td.bytes<=140737488355328)(h63:ys.length<=maxLen) :
  Qv P o env sto nxt ⟨.own nxt 0 ys.length,[(nxt,some ⟨td.size,true,false,ys⟩)],rs,1⟩:=.ran λF m a hI hE hH hF=>by
 have h1:=hE s (by simp [ho,Op.operands,Call.operands])
 have h2:=hE x (by simp [ho,Op.operands,Call.operands])
 rw [hs] at h1
 have hu:=ht.kind
 rw [hk] at hu
 ð⟨i,z,z1,z2,z3,z4,z5,z6,_⟩:=QbN he
 have hzs:z.cells.size=td.size:=by rw [<- hz,<- z5];simp
 have hnew:=hF nxt (Wl _) (by show nxt<nxt+1;omega)
 ð⟨ad,c,hv,hcase⟩:=(els_vals h0 h2 hx hH hsz).ex
 rcases hcase with rfl | ⟨b,off,news,rfl,n1,n2,n3,n4⟩
 ·have hrun:=JF (P:=P) m.w t o.type e i hu z1 none 0 0 (Wl _) ad c
  have hT:=QcV hI hnew m.w ⟨td.size,none,true,noI⟩ rfl rfl rfl (Wl _) (λ_ _=>rfl) (λg c h=>by cases h)
  &⟨.slice none 0 0,⟨m.w,m.M,ZN m.σ nxt (some ⟨td.size,none,true,noI⟩)⟩,.inl (Qbg ho h1.lit_inv hv hrun),hT.1,hT.2,.ownNil (Qi _ _ _) rfl,λp hp=>?_⟩
  obtain rfl:p=(nxt,some ⟨td.size,true,false,[]⟩):=by simpa using hp
  ~⟨_,Qi _ _ _,rfl,rfl,rfl,h0⟩
 ·by_cases hy:ys=[]
  ·subst hy
   have hrun:=JF (P:=P) m.w t o.type e i hu z1 none 0 0 (Wl _) (some ⟨b,off,none⟩) c
   have hT:=QcV hI hnew m.w ⟨td.size,none,true,noI⟩ rfl rfl rfl (Wl _) (λ_ _=>rfl) (λg c h=>by cases h)
   &⟨.slice none 0 0,⟨m.w,m.M,ZN m.σ nxt (some ⟨td.size,none,true,noI⟩)⟩,.inl (Qbg ho h1.lit_inv hv hrun),hT.1,hT.2,.ownNil (Qi _ _ _) rfl,λp hp=>?_⟩
   obtain rfl:p=(nxt,some ⟨td.size,true,false,[]⟩):=by simpa using hp
   ~⟨_,Qi _ _ _,rfl,rfl,rfl,h0⟩
  ·have hpos:0<ys.length:=Yt.2 hy
   have h63':(ys.length:Int)<=9223372036854775807:=by unfold maxLen at h63;omega
   have hrun:=run_append_nil (P:=P) m.w t o.type e i z hu z1 z4 ⟨b,off,none⟩ ys.length c news (by rw [z2];~n1) n2 hpos h63' (by rw [z3];omega)
   have hcap:=grownCap_ge m.w ys.length 0 e
   have hmax:=grownCap_le_maxLen m.w ys.length 0 e h63
   have hT:=QcV hI hnew (m.w.drew.alloc (.cells (news.toArray++Builtin.zeroCells z.cells (grownCap m.w ys.length 0 e-ys.length)) e)) ⟨td.size,some (m.w.heap.size,grownCap m.w ys.length 0 e),true,noI⟩ rfl rfl rfl Os (λk hk=>heap_alloc_old m.w.drew _ (by simpa using hk)) (λg c h=>by
    injection h with h
    injection h with h1 h2
    subst h1
    ~⟨Wl _,Os⟩)
   &⟨_,_,.inl (Qbg ho h1.lit_inv hv hrun),hT.1,hT.2,?_,λp hp=>?_⟩
   ·~own_mem (Qi _ _ _) rfl Oo hmax
   ·obtain rfl:p=(nxt,some ⟨td.size,true,false,ys⟩):=by simpa using hp
    suffices this:Row _ _ _ _ from Holds.of (Qi _ _ _) rfl rfl rfl this (this.deep rfl _)
    have:=row_two (m':=⟨m.w.drew.alloc (.cells (news.toArray++Builtin.zeroCells z.cells (grownCap m.w ys.length 0 e-ys.length)) e),m.M,ZN m.σ nxt (some ⟨td.size,some (m.w.heap.size,grownCap m.w ys.length 0 e),true,noI⟩)⟩) (xs:=[]) (ys:=ys) (sz:=td.size) (heap_alloc_new m.w.drew _) (by
     simp only [VQ,Vn,size_zeroCells,hzs,n1,<- Vv]
     congr 1
     omega) hmax h0 (by simpa using hcap) (λi x hx=>by simp at hx) (λi y hy=>⟨hsz y (Wp hy),λj d hd=>by
     ð⟨u,hu,hp⟩:=n4 i y j d hy hd
     have hlt:i*td.size+j<news.length:=by
      rcases Ws (i*td.size+j) news.length with h' | h'
      ·~h'
      ·rw [Wg h'] at hu;cases hu
     &⟨u,by rw [VH,WS,VS (by simpa using hlt)];simpa using hu,QdQ hp,hp.ext hT.2.size hT.2.keep⟩⟩)
    ~this
theorem app_raw{t e:Nat}{s x:Operand}{tt td:TyD}{len n c:Nat}{en:Ent}{ad:Option Addr}{news:List Value}(ho:o.op = .call ⟨.builtin .append,#[s,x],#[t,t]⟩)(ht:QF P t tt)(hk:tt.k = .slice e)(he:QF P e td)
  (hs:(∃ g cap,en.blk=some (g,cap)/\a.eval s = .slice (some ⟨g,0,none⟩) len cap/\len<=cap/\cap<=maxLen/\∃ cur T,m.w.heap[g]?=some (.cells cur T (0,0))/\cur.size=cap*td.size)\/(en.blk=none/\a.eval s = .slice none 0 0/\len=0))
  (hv:a.eval x = .slice ad n c)(hn:n=0\/∃ b off,ad=some ⟨b,off,none⟩/\news.length=n*td.size/\(∀ j u,news[j]?=some u->m.w.cell? ((⟨b,off,none⟩:Addr).add j)=some u)/\∀ u∈news,u.oneCell'=true)
  (hz:td.zero.length=td.size)(h0:0<td.size)(hb:(len+n)*td.bytes<=140737488355328)(h63:len+n<=maxLen) :
  ∃ v w',(execOp a.eval o).run P m.w = .ok (.value v) w'/\w'.os=m.w.os/\w'.tape=m.w.tape/\w'.output=m.w.output/\m.w.heap.size<=w'.heap.size/\(∀ j,j<m.w.heap.size->(∀ c,en.blk≠some (j,c))->w'.heap[j]?=m.w.heap[j]?) /\
   ((v = .slice none 0 0/\len=0/\n=0)\/∃ g' cap' cur' T',v = .slice (some ⟨g',0,none⟩) (len+n) cap'/\((∃ c',en.blk=some (g',c'))\/(m.w.heap.size<=g'/\g' < w'.heap.size))/\len+n<=cap'/\cap'<=maxLen/\w'.heap[g']?=some (.cells cur' T' (0,0))/\cur'.size=cap' * td.size /\
    (∀ p g cap cur T,en.blk=some (g,cap)->m.w.heap[g]?=some (.cells cur T (0,0))->p<len*td.size->cur'[p]?=cur[p]?)/\(0<n->∀ p,p<news.length->cur'[len*td.size+p]?=news[p]?)):=by
 have hu:=ht.kind
 rw [hk] at hu
 ð⟨i,z,z1,z2,z3,z4,z5,z6,_⟩:=QbN he
 have hzs:z.cells.size=td.size:=by rw [<- hz,<- z5];simp
 rcases hs with ⟨g,cap,k4,hsv,k5,k6,cur,T,c1,c2⟩ | ⟨k4,hsv,rfl⟩
 ·rcases Ud n with rfl | hpos
  ·&⟨_,m.w,Qbg ho hsv hv (JF (P:=P) m.w t o.type e i hu z1 (some ⟨g,0,none⟩) len cap k5 ad c),rfl,rfl,rfl,Wl _,λ_ _ _=>rfl,.inr ⟨g,cap,cur,T,rfl,.inl ⟨cap,k4⟩,k5,k6,c1,c2,λp g1 cap1 cur1 T1 h1 h2 _=>?_,λh=>absurd h (Y9 0)⟩⟩
   rw [k4] at h1
   injection h1 with h1
   injection h1 with h1
   subst h1
   rw [c1] at h2
   injection h2 with h2
   injection h2 with h2
   rw [h2]
  ·rcases hn with rfl | ⟨b,off,rfl,n1,n2,n3⟩
   ·~absurd hpos (Y9 0)
   by_cases hroom:len+n<=cap
   ·have hfit:len*i.size+news.length<=cur.size:=by rw [n1,c2,z2,<- Vv];~WB _ hroom
    have hrun:=run_append_room' (P:=P) m.w t o.type e T i hu z1 g len cap cur c1 ⟨b,off,none⟩ n c news (by rw [z2];~n1) n2 n3 hroom hfit
    rw [z2] at hrun hfit
    have hget:∀ p,(cur.toList.take (len*td.size)++news++cur.toList.drop (len*td.size+news.length)).toArray[p]?=if p<len*td.size then cur[p]? else if p<len*td.size+news.length then news[p-len*td.size]? else cur[p]?:=λp=>by
     have:=Qel cur.toList news (len*td.size) (by simpa using hfit) p
     simpa using this
    &⟨_,_,Qbg ho hsv hv hrun,rfl,rfl,rfl,Os,λj hj h=>setRow_other _ g j _ λhgj=>h cap (hgj▸k4),.inr ⟨g,cap,_,T,rfl,.inl ⟨cap,k4⟩,hroom,k6,setRow_heap m.w g cur _ T _ c1,?_,λp g1 cap1 cur1 T1 h1 h2 hp=>?_,λ_ p hp=>?_⟩⟩
    ·simp only [Vn,We,Wi,Ww,WG]
     omega
    ·rw [k4] at h1
     injection h1 with h1
     injection h1 with h1
     subst h1
     rw [c1] at h2
     injection h2 with h2
     injection h2 with h2
     rw [hget,if_pos hp,h2]
    ·rw [hget,if_neg Oo,if_pos Oo,UC]
   ·have holds:∀ j u,(cur.toList.take (len*td.size))[j]?=some u->m.w.cell? ((⟨g,0,none⟩:Addr).add j)=some u:=λj u hu=>by
     rw [WL] at hu
     split at hu
     ·rw [add_lit,WS,cell_of_row m.w g j cur T (0,0) c1]
      simpa using hu
     ·cases hu
    have holl:(cur.toList.take (len*td.size)).length=len*td.size:=by
     rw [Wi,WG,c2]
     ~W7 (WB _ k5)
    have h63':((len+n:Nat):Int)<=9223372036854775807:=by unfold maxLen at h63;omega
    have hrun:=run_append_grow (P:=P) m.w t o.type e i z hu z1 z4 ⟨g,0,none⟩ len cap (cur.toList.take (len*td.size)) (by rw [z2];~holl) holds ⟨b,off,none⟩ n c news (by rw [z2];~n1) n2 Oo h63' (by rw [z3];~growslice_fits Oo hb)
    have hcap:=grownCap_ge m.w (len+n) cap e
    have hmax:=grownCap_le_maxLen m.w (len+n) cap e h63
    generalize hG:grownCap m.w (len+n) cap e=G at *
    &⟨_,_,Qbg ho hsv hv hrun,rfl,rfl,rfl,Os,λj hj _=>heap_alloc_old m.w.drew _ (by simpa using hj),.inr ⟨m.w.heap.size,G,_,e,rfl,.inr ⟨Wl _,Os⟩,hcap,hmax,heap_alloc_new m.w.drew _,?_,λp g1 cap1 cur1 T1 h1 h2 hp=>?_,λ_ p hp=>?_⟩⟩
    ·simp only [VQ,Vn,size_zeroCells,hzs,n1,holl,<- Vv]
     congr 1
     omega
    ·rw [k4] at h1
     injection h1 with h1
     injection h1 with h1
     subst h1
     rw [c1] at h2
     injection h2 with h2
     injection h2 with h2
     rw [Array.append_assoc,VS (by rw [Vn,holl];omega),UL,Uy Oo,<- h2]
     simp
    ·rw [Array.append_assoc,Array.getElem?_append_right (by rw [Vn,holl];omega),Vn,holl,UC,VS (by rw [Vn];omega),UL]
 ·rcases Ud n with rfl | hpos
  ·~⟨_,m.w,Qbg ho hsv hv (JF (P:=P) m.w t o.type e i hu z1 none 0 0 (Wl _) ad c),rfl,rfl,rfl,Wl _,λ_ _ _=>rfl,.inl ⟨rfl,rfl,rfl⟩⟩
  ·rcases hn with rfl | ⟨b,off,rfl,n1,n2,n3⟩
   ·~absurd hpos (Y9 0)
   rw [WS] at hb h63
   have h63':(n:Int)<=9223372036854775807:=by unfold maxLen at h63;omega
   have hrun:=run_append_nil (P:=P) m.w t o.type e i z hu z1 z4 ⟨b,off,none⟩ n c news (by rw [z2];~n1) n2 hpos h63' (by rw [z3];omega)
   have hcap:=grownCap_ge m.w n 0 e
   have hmax:=grownCap_le_maxLen m.w n 0 e h63
   generalize hG:grownCap m.w n 0 e=G at *
   &⟨_,_,Qbg ho hsv hv hrun,rfl,rfl,rfl,Os,λj hj _=>heap_alloc_old m.w.drew _ (by simpa using hj),.inr ⟨m.w.heap.size,G,_,e,by rw [WS],.inr ⟨Wl _,Os⟩,Oo,hmax,heap_alloc_new m.w.drew _,?_,λp g1 cap1 cur1 T1 h1=>?_,λ_ p hp=>?_⟩⟩
   ·simp only [VQ,Vn,size_zeroCells,hzs,n1,<- Vv]
    congr 1
    omega
   ·rw [k4] at h1;cases h1
   ·rw [Un,WS,VS (by rw [Vn];omega),UL]
theorem r_app{t e:Nat}{s x:Operand}{tt td:TyD}{k len:Nat}{ob:Ob}{ys:List (List DV)}{rs:List Nat}(ho:o.op = .call ⟨.builtin .append,#[s,x],#[t,t]⟩)(ht:QF P t tt)(hk:tt.k = .slice e)(he:QF P e td)(hs:opd env s = .own k 0 len)(hg:sto.get k=some ob)(hx:elsF sto (opd env x)=some (ys,rs))
  (hf:ob.frz=false)(ha:ob.arr=true)(hl:len<=ob.els.length)(hez:ob.esz=td.size)(hz:td.zero.length=td.size)(h0:0<td.size)(hsz:∀ y∈ys,y.length=td.size)(hb:(len+ys.length)*td.bytes<=140737488355328)(h63:len+ys.length<=maxLen) :
  Qv P o env sto nxt ⟨.own nxt 0 (len+ys.length),[(k,none),(nxt,some ⟨td.size,true,false,ob.els.take len++ys⟩)],k :: rs,1⟩:=.ran λF m a hI hE hH hF=>by
 have h1:=hE s (by simp [ho,Op.operands,Call.operands])
 have h2:=hE x (by simp [ho,Op.operands,Call.operands])
 rw [hs] at h1
 have hnew:=hF nxt (Wl _) (by show nxt<nxt+1;omega)
 ð⟨en,k1,k2,k3,k4⟩:=X5 h1 (hH k Os ob hg)
 have hmu:en.mu=true:=by rw [k3,hf];rfl
 have hne:k≠nxt:=λh=>by subst h;rw [hnew] at k1;cases k1
 ð⟨ad,c,hv,hcase⟩:=(els_vals h0 h2 hx (λs hs=>hH s (Wm _ hs)) hsz).ex
 have hsv:(∃ g cap,en.blk=some (g,cap)/\a.eval s = .slice (some ⟨g,0,none⟩) len cap/\len<=cap/\cap<=maxLen/\∃ cur T,m.w.heap[g]?=some (.cells cur T (0,0))/\cur.size=cap*td.size)\/(en.blk=none/\a.eval s = .slice none 0 0/\len=0):=by
  rcases k4 with ⟨g,cap,k4,hsv,k5,k6⟩ | ⟨k4,hsv,_,h,_⟩
  ·rw [Un,Uw] at hsv
   ð⟨cur,T,c1,c2,_⟩:=k6.cells
   rw [hez] at c2
   ~.inl ⟨g,cap,k4,hsv,Oo,k6.max,cur,T,c1,c2⟩
  ·~.inr ⟨k4,hsv,h⟩
 have hn:∃ news:List Value,(ys.length=0\/∃ b off,ad=some ⟨b,off,none⟩/\news.length=ys.length*td.size/\(∀ j u,news[j]?=some u->m.w.cell? ((⟨b,off,none⟩:Addr).add j)=some u)/\∀ u∈news,u.oneCell'=true)/\∀ (i:Nat) y (j:Nat) d,ys[i]?=some y->y[j]?=some d->∃ u,news[i*td.size+j]?=some u/\PRep m.w m.no u d:=by
  rcases hcase with rfl | ⟨b,off,news,n0,n1,n2,n3,n4⟩
  ·~⟨[],.inl rfl,λi y j d h=>by simp at h⟩
  ·~⟨news,.inr ⟨b,off,n0,n1,n2,n3⟩,n4⟩
 ð⟨news,hn,n4⟩:=hn
 ð⟨v,w',hrun,w1,w2,w3,w4,w5,w6⟩:=app_raw ho ht hk he hsv hv hn hz h0 hb h63
 have hlt':(ob.els.take len).length=len:=by rw [Wi];omega
 have upd:∀ {e':Ent},Holds ⟨w',m.M,ZN (ZN m.σ k none) nxt (some e')⟩ nxt ⟨td.size,true,false,ob.els.take len++ys⟩->∀ p∈[(k,none),(nxt,some (⟨td.size,true,false,ob.els.take len++ys⟩:Ob))],Upd ⟨w',m.M,ZN (ZN m.σ k none) nxt (some e')⟩ p:=λq p hp=>by
  rcases Wt.1 hp with rfl | hp
  ·show ZN (ZN m.σ k none) nxt _ k=some none
   rw [QZ _ _ hne,Qi]
  ·obtain rfl:=Wo.1 hp
   ~q
 rcases w6 with ⟨rfl,h6,h7⟩ | ⟨g',cap',cur',T',rfl,q1,q2,q3,q4,q5,q6,q7⟩
 ·have hT:=QdM hI k1 hmu hnew w' ⟨td.size,none,true,noI⟩ w1 w2 w3 w4 w5 (λg' c' h=>by cases h)
  &⟨_,⟨w',m.M,ZN (ZN m.σ k none) nxt (some ⟨td.size,none,true,noI⟩)⟩,.inl hrun,hT.1,hT.2,?_,upd ⟨_,Qi _ _ _,rfl,rfl,?_⟩⟩
  ·rw [h6,h7];~.ownNil (Qi _ _ _) rfl
  ·rw [Vp.1 h7,h6];~⟨Os,h0⟩
 ·have hT:=QdM hI k1 hmu hnew w' ⟨td.size,some (g',cap'),true,noI⟩ w1 w2 w3 w4 w5 (λg1 c' h=>by
   injection h with h
   injection h with h1 h2
   subst h1
   ~q1)
  have row:Row ⟨w',m.M,ZN (ZN m.σ k none) nxt (some ⟨td.size,some (g',cap'),true,noI⟩)⟩ ⟨td.size,true,false,ob.els.take len++ys⟩ g' cap':=row_two (xs:=ob.els.take len) (ys:=ys) q4 q5 q3 h0 (by rw [hlt'];~q2) (λi x hx=>?_) (λi y hy=>⟨hsz y (Wp hy),λj d hd=>?_⟩)
  ·~⟨_,_,.inl hrun,hT.1,hT.2,own_mem (Qi _ _ _) rfl q2 q3,upd (Holds.of (Qi _ _ _) rfl rfl rfl row (row.deep rfl _))⟩
  ·rw [WL] at hx
   split at hx
   ·rename_i hi
    rcases k4 with ⟨g,cap,k4,_,k5,k6⟩ | ⟨_,_,_,h,_⟩
    ·have hl:=k6.sz i x hx
     rw [hez] at hl
     &⟨hl,λj d hd=>?_⟩
     ð⟨cur,T,c1,c2,c3⟩:=k6.cells
     rw [hez] at c3
     ð⟨u,hu,hr⟩:=c3 i x j d hx hd
     have hj:j<td.size:=by
      rcases Ws j x.length with h' | h'
      ·omega
      ·rw [Wg h'] at hd;cases hd
     have hle:(i+1)*td.size<=len*td.size:=WB _ hi
     rw [Vq] at hle
     rw [ha] at hr
     ~⟨u,by rw [q6 _ g cap cur T k4 c1 Oo];~hu,hr.ext hT.2.toExt⟩
    ·omega
   ·cases hx
  ·ð⟨u,hu,hp⟩:=n4 i y j d hy hd
   have hlt:i*td.size+j<news.length:=by
    rcases Ws (i*td.size+j) news.length with h' | h'
    ·~h'
    ·rw [Wg h'] at hu;cases hu
   have hpos:0<ys.length:=by
    rcases Ws i ys.length with h' | h'
    ·omega
    ·rw [Wg h'] at hy;cases hy
   &⟨u,?_,QdQ hp,hp.ext hT.2.size hT.2.keep⟩
   rw [hlt',Vv,Vf,q7 hpos _ hlt]
   ~hu
end
def deps(ops:Array Oper)(i:Nat):List Nat:=((ops[i]?).map (λo=>(o.after.toList.filter (λe=>Region.binds .any e)).map (·.on))).getD []
def backB(ops:Array Oper):Bool:=(List.range ops.size).all λi=>(deps ops i).all λd=>decide (d<i)
def writes(ops:Array Oper)(k:Nat):Bool:=ops.toList.any λo=>o.dst == some k
def apartB(n:Nat)(ops:Array Oper):Bool:=(List.range ops.size).all λi=>(match (ops[i]?).bind (·.dst) with
 | none=>true
 | some d=>decide (d<n) && (List.range ops.size).all λj=>decide (j=i) || ((ops[j]?).bind (·.dst) != some d))
theorem backB_spec{ops:Array Oper}(h:backB ops=true){i:Nat}{o:Oper}(ho:ops[i]?=some o){e:Edge}(he:e∈o.after)(hb:Region.binds .any e=true):e.on<i:=by
 unfold backB at h
 rw [WY] at h
 have hi:i<ops.size:=by
  rcases Ws i ops.size with h' | h'
  ·~h'
  ·rw [UG h'] at ho;cases ho
 have:=h i (Wz.2 hi)
 rw [WY] at this
 have h2:=this e.on (by
  unfold deps;rw [ho];simp only [Wu,WE,Wk,WI]
  ~⟨e,⟨by simpa using he,hb⟩,rfl⟩)
 simpa using h2
theorem Qgq{n:Nat}{ops:Array Oper}(h:apartB n ops=true){i:Nat}{o:Oper}(ho:ops[i]?=some o){d:Nat}(hd:o.dst=some d) :
  d<n/\∀ j oj,ops[j]?=some oj->j≠i->oj.dst≠some d:=by
 unfold apartB at h
 rw [WY] at h
 have hlt:∀ {i:Nat} {o:Oper},ops[i]?=some o->i<ops.size:=λ{i o} ho=>by
  rcases Ws i ops.size with h' | h'
  ·~h'
  ·rw [UG h'] at ho;cases ho
 have h1:=h i (Wz.2 (hlt ho))
 rw [ho] at h1
 simp only [WQ,hd,W9,decide_eq_true_eq,WY] at h1
 &⟨h1.1,λj oj hj hne hdj=>?_⟩
 have h2:=h1.2 j (Wz.2 (hlt hj))
 rw [hj] at h2
 simp [hne,hdj] at h2
section
variable{P:Program}{ops:Array Oper}{Q:Exit->Act->World->Prop}
structure RFacts(ops:Array Oper)(a0:Act)(G:World->Prop)(F:Nat->Value->World->Prop)(L:Array Bool)(a:Act)(w:World):Prop where
 size:a.tmps.size=a0.tmps.size
 defers:a.defers=a0.defers
 out:∀ k,writes ops k=false->a.tmps[k]?=a0.tmps[k]?
 g:G w
 f:∀ i o,ops[i]?=some o->L.getD i false=true->∃ v,(∀ d,o.dst=some d->a.tmps[d]?=some v)/\F i v w
theorem put_same{a:Act}{d k:Nat}{v:Value}(h:d≠k):(a.put (some d) v).tmps[k]?=a.tmps[k]?:=by
 simp [Act.put,h]
theorem put_here{a:Act}{d:Nat}{v:Value}(h:d<a.tmps.size):(a.put (some d) v).tmps[d]?=some v:=by
 simp [Act.put,h]
theorem Qfh{a:Act}{d:Option Nat}{v:Value}:(a.put d v).tmps.size=a.tmps.size:=by cases d <;> simp [Act.put]
theorem put_defers'{a:Act}{d:Option Nat}{v:Value}:(a.put d v).defers=a.defers:=by cases d <;> simp [Act.put]
def RStep(P:Program)(ops:Array Oper)(Q:Exit->Act->World->Prop)(a0:Act)(G:World->Prop)(E:World->World->Prop)(F:Nat->Value->World->Prop)(i:Nat):Prop :=
 ∀ o,ops[i]?=some o->∀ a w,a.defers=a0.defers->(∀ k,writes ops k=false->a.tmps[k]?=a0.tmps[k]?)->G w ->
  (∀ j∈deps ops i,∀ oj,ops[j]?=some oj->∃ v,(∀ d,oj.dst=some d->a.tmps[d]?=some v)/\F j v w) ->
  ∀ K:Act->World->Prop,(∀ v w',G w'->E w w'->F i v w'->K (a.put o.dst v) w') ->
   if Region.wanted o (yielded ops a.tmps)=true then Oper.wp P o a w K Q else K (a.put o.dst undef) w
theorem RFacts.put{a0:Act}{G:World->Prop}{E:World->World->Prop}{F:Nat->Value->World->Prop}{L:Array Bool}{a:Act}{w w':World}
  (hn:apartB a0.tmps.size ops=true)(hE:∀ j v w w',E w w'->F j v w->F j v w')(h:RFacts ops a0 G F L a w){i:Nat}{o:Oper}(ho:ops[i]?=some o){v:Value}(hg:G w')(he:E w w')(hf:F i v w') :
  RFacts ops a0 G F (L.setIfInBounds i true) (a.put o.dst v) w':=by
 &⟨by rw [Qfh];~h.size,by rw [put_defers'];~h.defers,λk hk=>?_,hg,λj oj hj hl=>?_⟩
 ·rw [<- h.out k hk]
  cases hd:o.dst with
  | none=>rfl
  | some d =>
   &put_same λe=>?_
   subst e
   unfold writes at hk
   rw [List.any_eq_false] at hk
   ~hk o (Array.mem_toList_iff.2 (Array.mem_of_getElem? ho)) (by simp [hd])
 ·by_cases hji:j=i
  ·subst hji
   rw [ho] at hj
   injection hj with hj
   subst hj
   &⟨v,λd hd=>?_,hf⟩
   rw [hd]
   ~put_here (by rw [h.size];~(Qgq hn ho hd).1)
  ·rw [getD_set_ne false (Ne.symm hji)] at hl
   ð⟨u,hu,hF⟩:=h.f j oj hj hl
   &⟨u,λd hd=>?_,hE _ _ _ _ he hF⟩
   rw [<- hu d hd]
   cases hd':o.dst with
   | none=>rfl
   | some d' =>
    &put_same λe=>?_
    subst e
    ~(Qgq hn ho hd').2 j oj hj hji hd
theorem ready_nil_all(hb:backB ops=true){L:Array Bool}(hl:L.size=ops.size)(h:Region.ready .any ops L=[]):∀ i,i<ops.size->L.getD i false=true:=by
 intro i
 induction i using Nat.strongRecOn with
 | _ i ih =>
  intro hi
  cases hL:L.getD i false with
  | true=>rfl
  | false =>
   exfalso
   have:i∈Region.ready .any ops L:=by
    &mem_ready.2 ⟨?_,ops[i],by simp [hi],λe he hbn=>?_⟩
    ·simp [hl,hi] at hL ⊢;~hL
    ·have:=backB_spec hb (by simp [hi]:ops[i]?=some ops[i]) he hbn
     ~ih e.on this Oo
   rw [h] at this
   cases this
def cnt(L:Array Bool):Nat:=L.toList.count false
theorem cnt_set{L:Array Bool}{i:Nat}(h:L.getD i true=false):cnt (L.setIfInBounds i true)+1=cnt L:=by
 have hi:i<L.size:=by
  rcases Ws i L.size with h' | h'
  ·~h'
  ·simp [Array.getD,Nat.not_lt.2 h'] at h
 have hv:L.toList[i]'(by simpa using hi)=false:=by simpa [Array.getD,hi] using h
 unfold cnt
 rw [Yx,List.count_set (by simpa using hi)]
 have hpos:0<L.toList.count false:=List.count_pos_iff.2 (by rw [<- hv];~Wc _)
 have hv':L[i]=false:=by simpa using hv
 simp [hv']
 have hp2:0<Array.count false L:=by simpa using hpos
 omega
theorem RStep.mk{a0:Act}{G:World->Prop}{E:World->World->Prop}{F:Nat->Value->World->Prop}{i:Nat}{o:Oper}(ho:ops[i]?=some o)(hg:o.guard=none)
  (h:∀ a w,a.defers=a0.defers->(∀ k,writes ops k=false->a.tmps[k]?=a0.tmps[k]?)->G w ->
   (∀ j,(deps ops i).contains j=true->∀ oj d,ops[j]?=some oj->oj.dst=some d->∃ v,a.tmps[d]?=some v/\F j v w) ->
   ∀ K:Act->World->Prop,Shut (∀ v w',G w'->E w w'->F i v w'->K (a.put o.dst v) w')->Oper.wp P o a w K Q):RStep P ops Q a0 G E F i:=by
 intro o' ho' a w hd hout hG hdep K hK
 rw [ho] at ho'
 injection ho' with ho'
 subst ho'
 rw [if_pos (by unfold Region.wanted;rw [hg])]
 &h a w hd hout hG (λj hj oj d hoj hdj=>?_) K hK
 ð⟨v,hv,hF⟩:=hdep j (by simpa using hj) oj hoj
 ~⟨v,hv d hdj,hF⟩
def RSteps(P:Program)(ops:Array Oper)(Q:Exit->Act->World->Prop)(a0:Act)(G:World->Prop)(E:World->World->Prop)(F:Nat->Value->World->Prop)(k:Nat):Prop :=
 ∀ i,k<=i->i<ops.size->RStep P ops Q a0 G E F i
theorem RSteps.cons{a0:Act}{G:World->Prop}{E:World->World->Prop}{F:Nat->Value->World->Prop}{k:Nat}(h:RStep P ops Q a0 G E F k)(hs:RSteps P ops Q a0 G E F (k+1)):RSteps P ops Q a0 G E F k :=
 λi h1 h2=>by
  rcases Nat.eq_or_lt_of_le h1 with rfl | h1
  ·~h
  ·~hs i h1 h2
theorem RSteps.nil{a0:Act}{G:World->Prop}{E:World->World->Prop}{F:Nat->Value->World->Prop}{k:Nat}(hk:ops.size<=k):RSteps P ops Q a0 G E F k:=λi h1 h2=>by omega
theorem RFacts.frame{a0:Act}{G:World->Prop}{F:Nat->Value->World->Prop}{L:Array Bool}{a:Act}{w:World}(h:RFacts ops a0 G F L a w){l:List Value}{ds:List Deferred}(ha:a0=⟨l.toArray,ds⟩)(m n:Nat)
  (hw:∀ k,(k<m\/m+n<=k)->writes ops k=false)(hl:m+n<=l.length):∃ us:List Value,us.length=n/\a=⟨(l.take m++us++l.drop (m+n)).toArray,ds⟩/\∀ k,k<n->us[k]?=a.tmps[m+k]?:=by
 subst ha
 &⟨(a.tmps.toList.drop m).take n,?_,?_,λk hk=>?_⟩
 ·have:=h.size;simp at this ⊢;omega
 ·have hs:=h.size
  have hd:=h.defers
  ð⟨t,d⟩:=a
  simp at hs hd
  subst hd
  congr 1
  apply Array.ext'
  apply V7
  intro k
  have ho:=h.out k
  simp at ho
  simp only [List.getElem?_append,Wi,We,Ww,WL,W2,WG]
  by_cases h1:k<m
  ·have:=ho (hw k (.inl h1))
   simp [h1,show k<min m l.length by omega,show k<min m l.length+min n (t.size-m) by omega,this]
  ·by_cases h2:k<m+n
   ·have e:m+(k-min m l.length)=k:=by omega
    simp [show ¬ k<min m l.length by omega,show k<min m l.length+min n (t.size-m) by omega,show k-min m l.length<n by omega,e]
   ·have:=ho (hw k (.inr Oo))
    have e:m+n+(k-(min m l.length+min n (t.size-m)))=k:=by omega
    simp [show ¬ k<min m l.length+min n (t.size-m) by omega,e,this]
 ·simp [hk]
end
def Env.put(env:Env):Option Nat->DV->Env
 | none,_=>env
 | some k,d=>(k,d) :: env
def Sto.drop:Sto->Nat->Sto
 | [],_=>[]
 | (j,d) :: l,k=>cond (Nat.beq j k) (Sto.drop l k) ((j,d) :: Sto.drop l k)
def Sto.upd(sto:Sto):List (Nat×Option Ob)->Sto
 | []=>sto
 | (s,some ob) :: l=>(s,ob) :: Sto.upd sto l
 | (s,none) :: l=>(Sto.upd sto l).drop s
def Xw:List (Nat×Option Ob)->Nat->Option (Option Ob)
 | [],_=>none
 | (j,x) :: l,s=>cond (Nat.beq s j) (some x) (Xw l s)
theorem Env.put_get(env:Env)(k:Nat)(d:DV)(s:Nat):(env.put (some k) d).get s=if s=k then d else env.get s:=by
 ~Env.get_cons _ _ _ _
theorem Sto.drop_get(sto:Sto)(k s:Nat):(sto.drop k).get s=if s=k then none else sto.get s:=by
 induction sto with
 | nil=>simp [Sto.drop,Sto.get_nil]
 | cons p l ih =>
  ð⟨j,d⟩:=p
  rw [Sto.drop,Jh]
  by_cases hj:j=k
  ·rw [if_pos hj,ih]
   simp only [Sto.get_cons]
   by_cases hs:s=k
   ·simp [hs]
   ·rw [if_neg hs,if_neg hs,if_neg Oo]
  ·rw [if_neg hj]
   simp only [Sto.get_cons,ih]
   by_cases hs:s=j
   ·rw [if_pos hs,if_neg Oo,if_pos hs]
   ·rw [if_neg hs,if_neg hs]
theorem Sto.upd_get(sto:Sto)(us:List (Nat×Option Ob))(s:Nat):(sto.upd us).get s=(Xw us s).getD (sto.get s):=by
 induction us with
 | nil=>rfl
 | cons p l ih =>
  ð⟨j,x⟩:=p
  cases x with
  | none =>
   simp only [Sto.upd,Xw,Jh,Sto.drop_get,ih]
   by_cases hs:s=j <;> simp [hs]
  | some ob =>
   simp only [Sto.upd,Xw,Jh,Sto.get_cons,ih]
   by_cases hs:s=j <;> simp [hs]
theorem QbM{us:List (Nat×Option Ob)}{s:Nat}(h:s∉us.map (·.1)):Xw us s=none:=by
 induction us with
 | nil=>rfl
 | cons p l ih =>
  ð⟨j,x⟩:=p
  simp only [Vg,Wt,not_or] at h
  simp only [Xw,Jh,if_neg h.1,ih h.2]
theorem QfJ{us:List (Nat×Option Ob)}{s:Nat}{x:Option Ob}(h:Xw us s=some x):(s,x)∈us:=by
 induction us with
 | nil=>cases h
 | cons p l ih =>
  ð⟨j,y⟩:=p
  simp only [Xw,Jh] at h
  split at h
  ·rename_i hs
   injection h with h
   subst hs
   subst h
   simp
  ·~Wm _ (ih h)
theorem updGet_in{us:List (Nat×Option Ob)}{s:Nat}(h:s∈us.map (·.1)):∃ x,Xw us s=some x:=by
 induction us with
 | nil=>cases h
 | cons p l ih =>
  ð⟨j,y⟩:=p
  simp only [Xw,Jh]
  by_cases hs:s=j
  ·~⟨y,by rw [if_pos hs]⟩
  ·rw [if_neg hs]
   ~ih (by simpa [hs] using h)
def Off(out:Out):Prop:=out=⟨.any,[],[],0⟩\/out=⟨.tup [],[],[],0⟩
theorem Off.rep{out:Out}(h:Off out)(m:Mem):Rep m undef out.d:=by
 rcases h with rfl | rfl
 ·~.any _
 ·~.tup (vs:=[]) rfl λi v d hv=>by simp at hv
theorem Off.us{out:Out}(h:Off out):out.us=[]:=by rcases h with rfl | rfl <;> rfl
def Qd0(P:Program)(ops:Array Oper)(o:Oper)(env:Env)(sto:Sto)(nxt:Nat)(out:Out):Prop :=
 match o.guard with
 | none=>Qv P o env sto nxt out
 | some (g,b)=>∃ t,(ops[g]?).bind (·.dst)=some t/\((env.get t = .lit (.bool b)/\Qv P o env sto nxt out)\/((env.get t = .lit (.bool (!b))\/env.get t = .tup [])/\Off out)\/∃ c:Bool,env.get t = .lit (.bool c)/\out.us=[]/\out.n=0/\(c=b->Qv P o env sto nxt out)/\(c=(!b)->out.d = .any))
inductive Run(P:Program)(ops:Array Oper):List Oper->Env->Sto->Nat->List (Out×Nat)->Env->Sto->Nat->Prop
 | nil {env:Env} {sto:Sto} {nxt:Nat}:Run P ops [] env sto nxt [] env sto nxt
 | cons {o:Oper} {rest:List Oper} {env:Env} {sto:Sto} {nxt:Nat} {out:Out} {outs:List (Out×Nat)} {env':Env} {sto':Sto} {nxt':Nat}:Qd0 P ops o env sto nxt out ->
   Run P ops rest (env.put o.dst out.d) (sto.upd out.us) (nxt+out.n) outs env' sto' nxt'->Run P ops (o :: rest) env sto nxt ((out,nxt) :: outs) env' sto' nxt'
structure DSt where
 env:Env
 sto:Sto
 nxt:Nat
structure Cx where
 F:Fm
 M:Nat->Prop
 nt:Nat
 n0:Nat
 σ0:Nat->Option (Option Ent)
def QcT(σ σ':Nat->Option (Option Ent)):Prop:=∀ s x,σ s=some x->∃ x',σ' s=some x'/\∀ e',x'=some e'->∃ e,x=some e/\e'.esz=e.esz/\e'.blk=e.blk
theorem QcT.trans{a b c:Nat->Option (Option Ent)}(h:QcT a b)(k:QcT b c):QcT a c:=λs x hx=>by
 ð⟨x1,h1,h2⟩:=h s x hx
 ð⟨x2,k1,k2⟩:=k s x1 h1
 &⟨x2,k1,λe' he'=>?_⟩
 ð⟨e1,y1,y2,y3⟩:=k2 e' he'
 ð⟨e0,z1,z2,z3⟩:=h2 e1 y1
 ~⟨e0,z1,y2.trans z2,y3.trans z3⟩
structure SimM(C:Cx)(env:Nat->DV)(sto:Nat->Option Ob)(m:Mem)(a:Act):Prop where
 inv:Inv C.F m
 M:m.M=C.M
 size:a.tmps.size=C.nt
 defers:a.defers=[]
 org:QcT C.σ0 m.σ
 lim0:∀ s,C.n0<=s->C.σ0 s=none
 env:∀ k,Rep m (a.tmps.getD k undef) (env k)
 sto:∀ s ob,sto s=some ob->Holds m s ob
def Sim(C:Cx)(st:DSt)(a:Act)(w:World):Prop:=∃ m:Mem,m.w=w/\SimM C st.env.get st.sto.get m a/\∀ s,st.nxt<=s->m.σ s=none
section
variable{P:Program}{C:Cx}
theorem put_getD{a:Act}{d:Option Nat}{v:Value}{k:Nat}:(a.put d v).tmps.getD k undef=if d=some k/\k<a.tmps.size then v else a.tmps.getD k undef:=by
 cases d with
 | none=>simp [Act.put]
 | some j =>
  simp only [Act.put,Vr,Array.getElem?_setIfInBounds,Wx]
  by_cases hj:j=k
  ·subst hj
   by_cases hl:j<a.tmps.size
   ·simp [hl]
   ·simp [hl]
  ·simp [hj]
theorem SimM.step{ops:Array Oper}{o:Oper}{env:Env}{sto:Sto}{nxt:Nat}{out:Out}(hs:Qd0 P ops o env sto nxt out){E:Nat->DV}{S:Nat->Option Ob}{m:Mem}{a:Act}(hm:SimM C E S m a)
  (hE:∀ x∈o.op.operands,∀ t,x = .tmp t->E t=env.get t)(hG:∀ g b t,o.guard=some (g,b)->(ops[g]?).bind (·.dst)=some t->E t=env.get t)(hS:∀ s∈out.rs,S s=sto.get s)(hF:Fresh m nxt out.n)(hd:∀ d,o.dst=some d->d<C.nt)
  {K:Act->World->Prop}{Q:Exit->Act->World->Prop}
  (hK:∀ a' m',SimM C (λk=>if o.dst=some k then out.d else E k) (λs=>(Xw out.us s).getD (S s)) m' a'->Loc (out.us.map (·.1)) m m'->K a' m'.w) :
  if Region.wanted o (yielded ops a.tmps)=true then Oper.wp P o a m.w K Q else K (a.put o.dst undef) m.w:=by
 have fin:Qv P o env sto nxt out->Oper.wp P o a m.w K Q:=λho=>by
  &ho C.F m a hm.inv (λx hx=>opd_rep λt ht=>?_) (λs hs ob hob=>hm.sto s ob ((hS s hs).trans hob)) hF K Q λv m' h1 h2 h3 h4=>hK (a.put o.dst v) m' ⟨h1,h2.M.trans hm.M,by rw [Qfh];~hm.size,by rw [put_defers'];~hm.defers,hm.org.trans h2.ent,hm.lim0,λk=>?_,λs ob hs=>?_⟩ h2
  ·rw [<- hE x hx t ht];~hm.env t
  ·rw [put_getD]
   by_cases hk:o.dst=some k
   ·have:=hd k hk
    rw [if_pos ⟨hk,by rw [hm.size];~this⟩,if_pos hk]
    ~h3
   ·rw [if_neg (λh=>hk h.1),if_neg hk]
    ~(hm.env k).ext h2.toExt
  ·cases hu:Xw out.us s with
   | some x =>
    rw [hu] at hs
    have:=h4 _ (QfJ hu)
    simp only [WE] at hs
    subst hs
    ~this
   | none =>
    rw [hu] at hs
    &Holds.loc hm.inv h2 (λhin=>?_) (hm.sto s ob hs)
    ð⟨x,hx⟩:=updGet_in hin
    rw [hu] at hx;cases hx
 unfold Qd0 at hs
 cases hg:o.guard with
 | none =>
  rw [hg] at hs
  rw [if_pos (by unfold Region.wanted;rw [hg])]
  ~fin hs
 | some p =>
  ð⟨g,b⟩:=p
  rw [hg] at hs
  ð⟨t,ht,hs⟩:=hs
  have hy:∀ c:Bool,env.get t = .lit (.bool c)->yielded ops a.tmps g=some c:=λc hc=>by
   have hr:=hm.env t
   rw [hG g b t hg ht,hc] at hr
   have hv:=hr.lit_inv
   unfold yielded
   rw [ht,WQ]
   rw [Vr] at hv
   cases hh:a.tmps[t]? with
   | none=>rw [hh] at hv;simp [undef] at hv
   | some u=>rw [hh] at hv;simp only [WE] at hv;subst hv;rfl
  have hn:env.get t = .tup []->yielded ops a.tmps g=none:=λhc=>by
   have hr:=hm.env t
   rw [hG g b t hg ht,hc] at hr
   ð⟨vs,hv,hl,_⟩:=hr.tup_inv
   unfold yielded
   rw [ht,WQ]
   rw [Vr] at hv
   cases hh:a.tmps[t]? with
   | none=>rfl
   | some u=>rw [hh] at hv;simp only [WE] at hv;subst hv;rfl
  rcases hs with ⟨h1,h2⟩ | ⟨h1,h2⟩ | ⟨c,h1,hu,hn,hy1,hy2⟩
  ·rw [if_pos (by unfold Region.wanted;rw [hg];dsimp only;rw [hy b h1];simp)]
   ~fin h2
  ·have hw:Region.wanted o (yielded ops a.tmps)=false:=by
    unfold Region.wanted
    rw [hg]
    dsimp only
    rcases h1 with h1 | h1
    ·rw [hy _ h1];cases b <;> rfl
    ·rw [hn h1];rfl
   rw [if_neg (by rw [hw];decide)]
   &hK _ m ⟨hm.inv,hm.M,by rw [Qfh];~hm.size,by rw [put_defers'];~hm.defers,hm.org,hm.lim0,λk=>?_,λs ob hs=>?_⟩ (by rw [h2.us];~Loc.refl _ _)
   ·rw [put_getD]
    by_cases hk:o.dst=some k
    ·rw [if_pos hk]
     split
     ·~h2.rep m
     ·rename_i hx
      ~absurd ⟨hk,by rw [hm.size];~hd k hk⟩ hx
    ·rw [if_neg (λh=>hk h.1),if_neg hk];~hm.env k
   ·rw [h2.us] at hs;~hm.sto s ob hs
  ·by_cases hcb:c=b
   ·subst hcb
    rw [if_pos (by unfold Region.wanted;rw [hg];dsimp only;rw [hy c h1];simp)]
    ~fin (hy1 rfl)
   ·have hcn:c=(!b):=by cases c <;> cases b <;> simp_all
    have hda:=hy2 hcn
    subst hcn
    rw [if_neg (by unfold Region.wanted;rw [hg];dsimp only;rw [hy _ h1];cases b <;> simp)]
    ð⟨d,us,rs,n⟩:=out
    dsimp only at hu hda
    subst hu
    subst hda
    &hK _ m ⟨hm.inv,hm.M,by rw [Qfh];~hm.size,by rw [put_defers'];~hm.defers,hm.org,hm.lim0,λk=>?_,hm.sto⟩ (Loc.refl _ _)
    rw [put_getD]
    by_cases hk:o.dst=some k
    ·rw [if_pos hk];~.any _
    ·rw [if_neg (λh=>hk h.1),if_neg hk];~hm.env k
theorem SimM.eq{E E':Nat->DV}{S S':Nat->Option Ob}{m:Mem}{a:Act}(h:SimM C E S m a)(hE:∀ k,E' k=E k)(hS:∀ s,S' s=S s):SimM C E' S' m a:=by
 rw [funext hE,funext hS];~h
def seqB(nt:Nat):List Oper->List (Out×Nat)->Bool
 | o :: l,(out,nx) :: r=>(match o.dst with | some d=>decide (d<nt) | none=>true) && (out.us.all λp=>decide (p.1<nx+out.n)) && seqB nt l r
 | [],[]=>true
 | _,_=>false
theorem run_seq{ops:Array Oper}{l:List Oper}{env env':Env}{sto sto':Sto}{nxt nxt':Nat}{outs:List (Out×Nat)}(h:Run P ops l env sto nxt outs env' sto' nxt')(hb:seqB C.nt l outs=true){Q:Exit->Act->World->Prop}
  (hQ:∀ a w,Sim C ⟨env',sto',nxt'⟩ a w->Q .normal a w):∀ a w,Sim C ⟨env,sto,nxt⟩ a w->wpList P ops Q l a w:=by
 induction h with
 | nil=>~hQ
 | @cons o rest env sto nxt out outs env' sto' nxt' hs _ ih =>
  simp only [seqB,W9] at hb
  ð⟨⟨b1,b2⟩,b3⟩:=hb
  intro a w ⟨m,hw,hm,hF⟩
  subst hw
  &wpList_step λK hK=>hm.step hs (λ_ _ _ _=>rfl) (λ_ _ _ _ _=>rfl) (λ_ _=>rfl) (λs h1 _=>hF s h1) (λd hd=>by rw [hd] at b1;simpa using b1) λa' m' h1 h2=>hK a' m'.w (ih b3 hQ a' m'.w ⟨m',rfl,h1.eq (λk=>?_) λs=>Sto.upd_get _ _ _,λs hs=>?_⟩)
  ·cases hd:o.dst with
   | none=>simp [Env.put]
   | some d =>
     simp only [Env.put_get,Wx];by_cases hk:d=k
     ·rw [if_pos hk,if_pos hk.symm]
     ·rw [if_neg hk,if_neg (Ne.symm hk)]
  ·rw [h2.same s λhin=>?_]
   ·~hF s (by dsimp only at hs ⊢;omega)
   ·ð⟨p,hp,rfl⟩:=Wk.1 hin
    have:=WY.1 b2 p hp
    simp only [decide_eq_true_eq] at this
    dsimp only at hs
    omega
def opTmps(o:Oper):List Nat:=o.op.operands.toList.filterMap λ| .tmp t=>some t | _=>none
def meets(x y:List Nat):Bool:=x.any λk=>y.contains k
def Qgm(K:List Nat)(ops:Array Oper)(o p:Oper)(x y:Out×Nat):Bool :=
 let t:=λ(o:Oper)=>o.dst.toList
 let g:=λ(o:Oper)=>(match o.guard with | some (g,_)=>((ops[g]?).bind (·.dst)).toList | none=>[])
 let W:=λ(x:Out×Nat)=>(x.1.us.map (·.1)).filter (λs=>!K.contains s)++List.range' x.2 x.1.n
 meets (t o) (opTmps p++g p++t p) || meets (t p) (opTmps o++g o) || meets (W x) (y.1.rs++W y) || meets (W y) x.1.rs
def reach(ops:Array Oper):Nat->Nat->Nat->Bool
 | 0,_,_=>false
 | n+1,j,i=>(deps ops j).any λd=>d == i || (decide (i<d) && reach ops n d i)
def ordK(K:List Nat)(ops:Array Oper)(outs:List (Out×Nat)):Bool :=
 (List.range ops.size).all λj=>(List.range j).all λi=>match ops[i]?,ops[j]?,outs[i]?,outs[j]? with
  | some o,some p,some x,some y=>!Qgm K ops o p x y || reach ops ops.size j i
  | _,_,_,_=>false
def ordB(ops:Array Oper)(outs:List (Out×Nat)):Bool:=ordK [] ops outs
def cst1(sto:Sto)(s:Nat):List (Out×Nat)->Prop
 | []=>True
 | x :: l=>(Xw x.1.us s=none\/Xw x.1.us s=some (sto.get s))/\cst1 sto s l
def cstP(sto:Sto)(nxt:Nat)(outs:List (Out×Nat)):List Nat->Prop
 | []=>True
 | s :: K=>(Nat.blt s nxt=true/\cst1 sto s outs)/\cstP sto nxt outs K
theorem cst1.get{sto:Sto}{s:Nat}:∀ {outs:List (Out×Nat)},cst1 sto s outs->∀ (i:Nat) (x:Out×Nat),outs[i]?=some x->∀ y,Xw x.1.us s=some y->y=sto.get s
 | [],_,i,x,h,_,_=>by simp at h
 | z :: l,h,0,x,hx,y,hy=>by
  injection hx with hx
  subst hx
  rcases h.1 with k | k
  ·rw [k] at hy;cases hy
  ·rw [k] at hy;injection hy with hy;~hy.symm
 | z :: l,h,i+1,x,hx,y,hy=>cst1.get h.2 i x hx y hy
theorem cstP.get{sto:Sto}{nxt:Nat}{outs:List (Out×Nat)}:∀ {K:List Nat},cstP sto nxt outs K->∀ s∈K,s<nxt/\∀ (i:Nat) (x:Out×Nat),outs[i]?=some x->∀ y,Xw x.1.us s=some y->y=sto.get s
 | [],_,s,hs=>by cases hs
 | k :: K,h,s,hs=>by
  rcases Wt.1 hs with rfl | hs
  ·~⟨by simpa [Nat.blt_eq] using h.1.1,h.1.2.get⟩
  ·~cstP.get h.2 s hs
end
abbrev QfE:=List (Out×Nat)
def Qev(l:List Oper)(i:Nat):Option Nat:=(l[i]?).bind (·.dst)
def dAt(outs:QfE)(i:Nat):DV:=match outs[i]? with | some x=>x.1.d | none=>.any
def usAt(outs:QfE)(i:Nat):List (Nat×Option Ob):=match outs[i]? with | some x=>x.1.us | none=>[]
def QaI(l:List Oper)(outs:QfE)(E:Nat->DV)(L:Nat->Bool)(t:Nat):Nat->DV
 | 0=>E t
 | i+1=>if L i=true/\Qev l i=some t then dAt outs i else QaI l outs E L t i
def J2(outs:QfE)(S:Nat->Option Ob)(L:Nat->Bool)(s:Nat):Nat->Option Ob
 | 0=>S s
 | i+1=>if L i=true then (Xw (usAt outs i) s).getD (J2 outs S L s i) else J2 outs S L s i
theorem lookE_cons{o:Oper}{l:List Oper}{x:Out×Nat}{outs:QfE}{E:Nat->DV}{t i:Nat} :
  QaI (o :: l) (x :: outs) E (λ_=>true) t (i+1)=QaI l outs (λk=>if o.dst=some k then x.1.d else E k) (λ_=>true) t i:=by
 induction i with
 | zero=>simp [QaI,Qev,dAt]
 | succ i ih =>
  rw [QaI,ih]
  conv=>rhs;rw [QaI]
  simp only [Qev,dAt,V5]
theorem lookS_cons{x:Out×Nat}{outs:QfE}{S:Nat->Option Ob}{s i:Nat} :
  J2 (x :: outs) S (λ_=>true) s (i+1)=J2 outs (λk=>(Xw x.1.us k).getD (S k)) (λ_=>true) s i:=by
 induction i with
 | zero=>simp [J2,usAt]
 | succ i ih =>
  rw [J2,ih]
  conv=>rhs;rw [J2]
  simp only [usAt,V5]
theorem Qdq{l:List Oper}{outs:QfE}{E:Nat->DV}{L:Nat->Bool}{t i n:Nat}(hin:i<=n)(h1:∀ j,j<i->Qev l j=some t->L j=true)(h2:∀ j,i<=j->j<n->Qev l j=some t->L j=false) :
  QaI l outs E L t n=QaI l outs E (λ_=>true) t i:=by
 induction n with
 | zero =>
   obtain rfl:i=0:=by omega
   rfl
 | succ n ih =>
  by_cases hi:i=n+1
  ·subst hi
   clear ih h2
   have:∀ k,k<=n+1->QaI l outs E L t k=QaI l outs E (λ_=>true) t k:=by
    intro k
    induction k with
    | zero=>intro _;rfl
    | succ k ih =>
     intro hk
     rw [QaI,QaI,ih Oo]
     by_cases hd:Qev l k=some t
     ·simp [hd,h1 k Oo hd]
     ·simp [hd]
   ~this _ (Wl _)
  ·rw [QaI,ih Oo λj h h'=>h2 j h Oo]
   by_cases hd:Qev l n=some t
   ·simp [h2 n Oo Oo hd]
   ·simp [hd]
theorem Qdp{outs:QfE}{S:Nat->Option Ob}{L:Nat->Bool}{s i n:Nat}(hin:i<=n)(h1:∀ j,j<i->s∈(usAt outs j).map (·.1)->L j=true)(h2:∀ j,i<=j->j<n->s∈(usAt outs j).map (·.1)->L j=false) :
  J2 outs S L s n=J2 outs S (λ_=>true) s i:=by
 induction n with
 | zero =>
   obtain rfl:i=0:=by omega
   rfl
 | succ n ih =>
  by_cases hi:i=n+1
  ·subst hi
   clear ih h2
   have:∀ k,k<=n+1->J2 outs S L s k=J2 outs S (λ_=>true) s k:=by
    intro k
    induction k with
    | zero=>intro _;rfl
    | succ k ih =>
     intro hk
     rw [J2,J2,ih Oo]
     by_cases hd:s∈(usAt outs k).map (·.1)
     ·simp [h1 k Oo hd]
     ·simp [QbM hd]
   ~this _ (Wl _)
  ·rw [J2,ih Oo λj h h'=>h2 j h Oo]
   by_cases hd:s∈(usAt outs n).map (·.1)
   ·simp [h2 n Oo Oo hd]
   ·simp [QbM hd]
theorem lookE_congr{l:List Oper}{outs:QfE}{E:Nat->DV}{L L':Nat->Bool}{t n:Nat}(h:∀ j,j<n->Qev l j=some t->L' j=L j):QaI l outs E L' t n=QaI l outs E L t n:=by
 induction n with
 | zero=>rfl
 | succ n ih =>
  rw [QaI,QaI,ih λj hj=>h j Oo]
  by_cases hd:Qev l n=some t
  ·simp [hd,h n Oo hd]
  ·simp [hd]
theorem lookS_congr{outs:QfE}{S:Nat->Option Ob}{L L':Nat->Bool}{s n:Nat}(h:∀ j,j<n->s∈(usAt outs j).map (·.1)->L' j=L j):J2 outs S L' s n=J2 outs S L s n:=by
 induction n with
 | zero=>rfl
 | succ n ih =>
  rw [J2,J2,ih λj hj=>h j Oo]
  by_cases hd:s∈(usAt outs n).map (·.1)
  ·simp [h n Oo hd]
  ·simp [QbM hd]
theorem Qf5{outs:QfE}{S:Nat->Option Ob}{L:Nat->Bool}{s:Nat}:∀ {n:Nat},(∀ i,i<n->∀ y,Xw (usAt outs i) s=some y->y=S s)->J2 outs S L s n=S s
 | 0,_=>rfl
 | n+1,h=>by
  unfold J2
  have ih:=Qf5 (L:=L) (n:=n) λi hi=>h i Oo
  split
  ·cases hu:Xw (usAt outs n) s with
   | none=>~ih
   | some y=>~h n Oo y hu
  ·~ih
theorem lookE_self{l:List Oper}{outs:QfE}{E:Nat->DV}{L:Nat->Bool}{t i n:Nat}(hin:i<n)(hi:L i=true)(hd:Qev l i=some t)(h2:∀ j,i<j->j<n->Qev l j=some t->L j=false):QaI l outs E L t n=dAt outs i:=by
 induction n with
 | zero=>omega
 | succ n ih =>
  rw [QaI]
  by_cases hn:i=n
  ·subst hn;rw [if_pos ⟨hi,hd⟩]
  ·rw [if_neg (λh=>by rw [h2 n Oo Oo h.2] at h;cases h.1)]
   ~ih Oo λj h h'=>h2 j h Oo
theorem lookS_self{outs:QfE}{S:Nat->Option Ob}{L:Nat->Bool}{s i n:Nat}{x:Option Ob}(hin:i<n)(hi:L i=true)(hd:Xw (usAt outs i) s=some x)(h2:∀ j,i<j->j<n->s∈(usAt outs j).map (·.1)->L j=false):J2 outs S L s n=x:=by
 induction n with
 | zero=>omega
 | succ n ih =>
  rw [J2]
  by_cases hn:i=n
  ·subst hn;rw [if_pos hi,hd];rfl
  ·have:=ih Oo λj h h'=>h2 j h Oo
   by_cases hm:s∈(usAt outs n).map (·.1)
   ·rw [if_neg (by rw [h2 n Oo Oo hm];simp)];~this
   ·rw [QbM hm];simp [this]
section
variable{P:Program}{C:Cx}{ops:Array Oper}
theorem run_at{l:List Oper}{env env':Env}{sto sto':Sto}{nxt nxt':Nat}{outs:QfE}(h:Run P ops l env sto nxt outs env' sto' nxt')(hb:seqB C.nt l outs=true) :
  outs.length=l.length/\nxt<=nxt'/\(∀ t,env'.get t=QaI l outs env.get (λ_=>true) t l.length)/\(∀ s,sto'.get s=J2 outs sto.get (λ_=>true) s l.length) /\
  ∀ i o,l[i]?=some o->∃ out nx ei si,outs[i]?=some (out,nx)/\Qd0 P ops o ei si nx out/\(∀ t,ei.get t=QaI l outs env.get (λ_=>true) t i)/\(∀ s,si.get s=J2 outs sto.get (λ_=>true) s i)/\nxt<=nx/\nx+out.n<=nxt' /\
   (∀ d,o.dst=some d->d<C.nt)/\(∀ p∈out.us,p.1<nx+out.n)/\∀ j out' nx',j<i->outs[j]?=some (out',nx')->nx'+out'.n<=nx:=by
 induction h with
 | nil=>~⟨rfl,Wl _,λ_=>rfl,λ_=>rfl,λi o h=>by simp at h⟩
 | @cons o rest env sto nxt out outs env' sto' nxt' hs hr ih =>
  simp only [seqB,W9] at hb
  ð⟨⟨b1,b2⟩,b3⟩:=hb
  ð⟨i1,i2,i3,i4,i5⟩:=ih b3
  have hE:(λk=>if o.dst=some k then out.d else env.get k)=(env.put o.dst out.d).get:=funext λk=>by
   cases hd:o.dst with
   | none=>simp [Env.put]
   | some d =>
    simp only [Env.put_get,Wx]
    by_cases hk:d=k
    ·rw [if_pos hk,if_pos hk.symm]
    ·rw [if_neg hk,if_neg (Ne.symm hk)]
  have hS:(λk=>(Xw out.us k).getD (sto.get k))=(sto.upd out.us).get:=funext λk=>(Sto.upd_get _ _ _).symm
  &⟨by simp [i1],Oo,λt=>?_,λs=>?_,λi o' ho=>?_⟩
  ·rw [i3,WX,lookE_cons,hE]
  ·rw [i4,WX,lookS_cons,hS]
  ·cases i with
   | zero =>
    simp only [WJ,Wx] at ho
    subst ho
    ~⟨out,nxt,env,sto,rfl,hs,λ_=>rfl,λ_=>rfl,Wl _,i2,λd hd=>by rw [hd] at b1;simpa using b1,λp hp=>by simpa using List.all_eq_true.1 b2 p hp,λj _ _ hj=>by omega⟩
   | succ i =>
    ð⟨out1,nx,ei,si,k1,k2,k3,k4,k5,k6,k7,k8,k9⟩:=i5 i o' (by simpa using ho)
    &⟨out1,nx,ei,si,by simpa using k1,k2,λt=>?_,λs=>?_,Oo,k6,k7,k8,λj out' nx' hj hj'=>?_⟩
    ·rw [k3,lookE_cons,hE]
    ·rw [k4,lookS_cons,hS]
    ·cases j with
     | zero =>
      simp only [WJ,Wx,Uh] at hj'
      ð⟨rfl,rfl⟩:=hj'
      ~k5
     | succ j=>~k9 j out' nx' Oo (by simpa using hj')
theorem QaR{x y:List Nat}{k:Nat}(hx:k∈x)(hy:k∈y):meets x y=true:=UD.2 ⟨k,hx,by simpa using hy⟩
theorem reach_in{L:Nat->Bool}(hc:∀ i,L i=true->∀ d∈deps ops i,L d=true){i:Nat}:∀ (n j:Nat),(∀ d∈deps ops j,L d=true)->reach ops n j i=true->L i=true:=by
 intro n
 induction n with
 | zero=>intro j _ h;cases h
 | succ n ih =>
  intro j hd h
  simp only [reach,UD,VK,W9] at h
  ð⟨d,hd1,h⟩:=h
  rcases h with h | ⟨_,h⟩
  ·have:d=i:=by simpa using h
   ~this▸hd d hd1
  ·~ih d (hc d (hd d hd1)) h
theorem ordB_spec{K:List Nat}{outs:QfE}(h:ordK K ops outs=true){i j:Nat}(hij:i<j){o p:Oper}{x y:Out×Nat}(ho:ops[i]?=some o)(hp:ops[j]?=some p)(hx:outs[i]?=some x)(hy:outs[j]?=some y)(hc:Qgm K ops o p x y=true):reach ops ops.size j i=true:=by
 have hj:j<ops.size:=by
  rcases Ws j ops.size with h' | h'
  ·~h'
  ·rw [UG h'] at hp;cases hp
 unfold ordK at h
 rw [WY] at h
 have h1:=h j (Wz.2 hj)
 rw [WY] at h1
 have h2:=h1 i (Wz.2 hij)
 simp only [ho,hp,hx,hy,hc,Bool.not_true,Bool.false_or] at h2
 ~h2
theorem opTmps_mem{o:Oper}{t:Nat}(h:.tmp t∈o.op.operands):t∈opTmps o:=List.mem_filterMap.2 ⟨.tmp t,by simpa using h,rfl⟩
theorem run_any{K:List Nat}{env env':Env}{sto sto':Sto}{nxt nxt':Nat}{outs:QfE}(h:Run P ops ops.toList env sto nxt outs env' sto' nxt')(hb:seqB C.nt ops.toList outs=true)(hk:backB ops=true)(hord:ordK K ops outs=true)(hcst:cstP sto nxt outs K){Q:Exit->Act->World->Prop}
  (hQ:∀ a w,Sim C ⟨env',sto',nxt'⟩ a w->Q .normal a w):∀ fuel (L:Array Bool) a w,L.size=ops.size->cnt L<=fuel->(∀ i,L.getD i false=true->∀ d∈deps ops i,L.getD d false=true) ->
   (∃ m:Mem,m.w=w/\SimM C (λt=>QaI ops.toList outs env.get (L.getD · false) t ops.size) (λs=>J2 outs sto.get (L.getD · false) s ops.size) m a/\∀ s,nxt<=s->(∀ j,j<ops.size->L.getD j false=true->s∉(usAt outs j).map (·.1))->m.σ s=none) ->
   wpAny P .any ops Q fuel L a w:=by
 have hlen:ops.toList.length=ops.size:=WG
 ð⟨r1,r2,r3,r4,r5⟩:=run_at (C:=C) h hb
 rw [hlen] at r1 r3 r4
 have usAt_eq:∀ {i out nx},outs[i]?=some (out,nx)->usAt outs i=out.us:=λ{i out nx} h=>by unfold usAt;rw [h]
 have dst_eq:∀ {i o},ops[i]?=some o->Qev ops.toList i=o.dst:=λ{i o} h=>by unfold Qev;rw [UM,h];rfl
 have get_o:∀ {i},i<ops.size->∃ o,ops[i]?=some o:=λ{i} h=>⟨ops[i],by simp [h]⟩
 have fin:∀ L a w,L.size=ops.size->(∃ m:Mem,m.w=w/\SimM C (λt=>QaI ops.toList outs env.get (L.getD · false) t ops.size) (λs=>J2 outs sto.get (L.getD · false) s ops.size) m a/\∀ s,nxt<=s->(∀ j,j<ops.size->L.getD j false=true->s∉(usAt outs j).map (·.1))->m.σ s=none) ->
   Region.ready .any ops L=[]->Q .normal a w:=λL a w hl ⟨m,hw,hm,hF⟩ hr=>by
  have hall:=ready_nil_all hk hl hr
  &hQ a w ⟨m,hw,hm.eq (λt=>?_) λs=>?_,λs hs=>hF s (by dsimp only at hs;omega) λj hj _ hin=>?_⟩
  ·dsimp only
   rw [r3]
   ~(Qdq (Wl _) (λj hj _=>hall j hj) λj h1 h2=>by omega).symm
  ·dsimp only
   rw [r4]
   ~(Qdp (Wl _) (λj hj _=>hall j hj) λj h1 h2=>by omega).symm
  ·ð⟨o,ho⟩:=get_o hj
   ð⟨out,nx,ei,si,k1,_,_,_,_,k6,_,k8,_⟩:=r5 j o (by rw [UM];~ho)
   rw [usAt_eq k1] at hin
   ð⟨p,hp,rfl⟩:=Wk.1 hin
   have:=k8 p hp
   dsimp only at hs
   omega
 intro fuel
 induction fuel with
 | zero =>
  intro L a w hl hc hcl hm
  have hr:Region.ready .any ops L=[]:=by
   rw [List.eq_nil_iff_forall_not_mem]
   intro i hi
   have:=cnt_set (mem_ready.1 hi).1
   omega
  ~⟨hr,fin L a w hl hm hr⟩
 | succ fuel ih =>
  intro L a w hl hc hcl hm
  &⟨fin L a w hl hm,λi hi=>?_⟩
  ð⟨hun,o,ho,hdep⟩:=mem_ready.1 hi
  ð⟨m,hw,hm,hF⟩:=hm
  subst hw
  have hlt:i<ops.size:=by
   rcases Ws i ops.size with h' | h'
   ·~h'
   ·rw [UG h'] at ho;cases ho
  have hun':L.getD i false=false:=by
   have hi':i<L.size:=by omega
   simpa [Array.getD,hi'] using hun
  have hdi:∀ d∈deps ops i,L.getD d false=true:=λd hd=>by
   unfold deps at hd
   rw [ho] at hd
   simp only [Wu,WE,Wk,WI] at hd
   ð⟨e,⟨he,hbn⟩,rfl⟩:=hd
   ~hdep e (by simpa using he) hbn
  ð⟨out,nx,ei,si,k1,k2,k3,k4,k5,k6,k7,k8,k9⟩:=r5 i o (by rw [UM];~ho)
  have early:∀ j p y,j<i->ops[j]?=some p->outs[j]?=some y->Qgm K ops p o y (out,nx)=true->L.getD j false=true:=λj p y hj hp hy hcl' =>
   reach_in (L:=(L.getD · false)) hcl _ i hdi (ordB_spec hord hj hp ho hy k1 hcl')
  have late:∀ j p y,i<j->ops[j]?=some p->outs[j]?=some y->Qgm K ops o p (out,nx) y=true->L.getD j false=false:=λj p y hj hp hy hcl'=>by
   cases hLj:L.getD j false with
   | false=>rfl
   | true =>
    have:=reach_in (L:=(L.getD · false)) hcl _ j (hcl j hLj) (ordB_spec hord hj ho hp k1 hy hcl')
    rw [show L.getD i false=true from this] at hun';cases hun'
  have usK:∀ s,s∈K->∀ (L:Nat->Bool) (n:Nat),n<=ops.size->J2 outs sto.get L s n=sto.get s:=λs hs L n hn=>Qf5 λj hj y hy=>by
   obtain ⟨x,hx⟩:∃ x,outs[j]?=some x:=⟨outs[j]' Oo,Wa Oo⟩
   rw [usAt_eq (show outs[j]?=some (x.1,x.2) from hx)] at hy
   ~(hcst.get s hs).2 j x hx y hy
  have inW:∀ {s:Nat} {l:List (Nat×Option Ob)} {l':List Nat},s∈l.map (·.1)->s∉K->s∈(l.map (·.1)).filter (λs=>!K.contains s)++l':=λh1 h2=>Wf _ (WI.2 ⟨h1,by simp [h2]⟩)
  have get_x:∀ {j},j<ops.size->∃ p y,ops[j]?=some p/\outs[j]?=some y:=λ{j} hj=>by
   ð⟨p,hp⟩:=get_o hj
   ~⟨p,outs[j]' Oo,hp,Wa Oo⟩
  have slot:∀ t,t∈opTmps o++(match o.guard with | some (g,_)=>((ops[g]?).bind (·.dst)).toList | none=>[])->QaI ops.toList outs env.get (L.getD · false) t ops.size=ei.get t:=λt ht=>by
   rw [k3]
   &Qdq Oo (λj hj hd=>?_) λj h1 h2 hd=>?_
   ·ð⟨p,y,hp,hy⟩:=get_x (j:=j) Oo
    rw [dst_eq hp] at hd
    &early j p y hj hp hy ?_
    unfold Qgm
    simp only [hd,Yy,VK]
    ~.inl (.inl (.inl (QaR (Wo.2 rfl) (Wf _ ht))))
   ·by_cases hji:j=i
    ·subst hji;~hun'
    ·ð⟨p,y,hp,hy⟩:=get_x (j:=j) h2
     rw [dst_eq hp] at hd
     &late j p y Oo hp hy ?_
     unfold Qgm
     simp only [hd,Yy,VK]
     ~.inl (.inl (.inr (QaR (Wo.2 rfl) ht)))
  have obj:∀ s,s∈out.rs->J2 outs sto.get (L.getD · false) s ops.size=si.get s:=λs hs=>by
   by_cases hsK:s∈K
   ·rw [k4,usK s hsK _ _ (Wl _),usK s hsK _ _ Oo]
   rw [k4]
   &Qdp Oo (λj hj hd=>?_) λj h1 h2 hd=>?_
   ·ð⟨p,y,hp,hy⟩:=get_x (j:=j) Oo
    rw [usAt_eq hy] at hd
    &early j p y hj hp hy ?_
    unfold Qgm
    simp only [VK]
    ~.inl (.inr (QaR (inW hd hsK) (Wf _ hs)))
   ·by_cases hji:j=i
    ·subst hji;~hun'
    ·ð⟨p,y,hp,hy⟩:=get_x (j:=j) h2
     rw [usAt_eq hy] at hd
     &late j p y Oo hp hy ?_
     unfold Qgm
     simp only [VK]
     ~.inr (QaR (inW hd hsK) hs)
  have fresh:Fresh m nx out.n:=λs h1 h2=>hF s Oo λj hj hLj hin=>by
   ð⟨p,y,hp,hy⟩:=get_x hj
   rw [usAt_eq hy] at hin
   by_cases hji:j<i
   ·ð⟨o',nx'⟩:=y
    ð⟨out2,nx2,_,_,q1,_,_,_,_,_,_,q8,_⟩:=r5 j p (by rw [UM];~hp)
    rw [hy] at q1
    injection q1 with q1
    injection q1 with q1 q2
    subst q1
    subst q2
    ð⟨pp,hpp,rfl⟩:=Wk.1 hin
    have a1:=q8 pp hpp
    have a2:=k9 j _ _ hji hy
    omega
   ·by_cases hje:j=i
    ·subst hje;rw [hun'] at hLj;cases hLj
    ·have:=late j p y Oo hp hy (by
      unfold Qgm
      simp only [VK]
      ~.inl (.inr (QaR (k:=s) (Wj _ (by rw [List.mem_range'];~⟨s-nx,Oo,Oo⟩)) (Wj _ (inW hin λhK=>by have:=(hcst.get s hK).1;omega)))))
     rw [this] at hLj;cases hLj
  &wpOp_step ho λK1 hK1=>hm.step k2 (λx hx t ht=>slot t (Wf _ (opTmps_mem (ht▸hx)))) (λg b t hg hgt=>slot t (Wj _ (by rw [hg];dsimp only;rw [hgt];simp))) obj fresh k7 λa' m' h1 h2=>?_
  &hK1 a' m'.w (ih _ _ _ (by simpa using hl) (by have:=cnt_set hun;omega) (λj hj d hd=>?_) ⟨m',rfl,h1.eq (λt=>?_) (λs=>?_),λs hs hj=>?_⟩)
  ·by_cases hji:i=j
   ·subst hji
    by_cases hdi':i=d
    ·subst hdi';~hj
    ·rw [getD_set_ne false hdi'];~hdi d hd
   ·rw [getD_set_ne false hji] at hj
    by_cases hdi':i=d
    ·subst hdi'
     have:=hcl j hj i hd
     rw [hun'] at this;cases this
    ·rw [getD_set_ne false hdi'];~hcl j hj d hd
  ·have hset:(L.setIfInBounds i true).getD i false=true:=by
    have:i<L.size:=by omega
    simp [Array.getD,this]
   by_cases ht:o.dst=some t
   ·rw [if_pos ht]
    have:=lookE_self (l:=ops.toList) (outs:=outs) (E:=env.get) (L:=((L.setIfInBounds i true).getD · false)) (t:=t) (n:=ops.size) hlt hset (by rw [dst_eq ho];~ht) λj h1 h2 hd=>by
     ð⟨p,y,hp,hy⟩:=get_x (j:=j) h2
     rw [dst_eq hp] at hd
     rw [getD_set_ne false Oo]
     &late j p y h1 hp hy ?_
     unfold Qgm
     simp only [ht,hd,Yy,VK]
     ~.inl (.inl (.inl (QaR (Wo.2 rfl) (Wj _ (Wo.2 rfl)))))
    rw [this]
    unfold dAt
    rw [k1]
   ·rw [if_neg ht]
    &lookE_congr λj hj hd=>?_
    by_cases hji:i=j
    ·subst hji;rw [dst_eq ho] at hd;~absurd hd ht
    ·~getD_set_ne false hji
  ·have hset:(L.setIfInBounds i true).getD i false=true:=by
    have:i<L.size:=by omega
    simp [Array.getD,this]
   cases hu:Xw out.us s with
   | some x =>
    simp only [WE]
    by_cases hsK:s∈K
    ·rw [usK s hsK _ _ (Wl _),(hcst.get s hsK).2 i (out,nx) k1 x hu]
    &lookS_self (L:=((L.setIfInBounds i true).getD · false)) hlt hset (by rw [usAt_eq k1];~hu) λj h1 h2 hd=>?_
    ð⟨p,y,hp,hy⟩:=get_x (j:=j) h2
    rw [usAt_eq hy] at hd
    rw [getD_set_ne false Oo]
    &late j p y h1 hp hy ?_
    unfold Qgm
    simp only [VK]
    ~.inl (.inr (QaR (inW (W0 (f:=(·.1)) (QfJ hu)) hsK) (Wj _ (inW hd hsK))))
   | none =>
    simp only [YI]
    &lookS_congr λj hj hd=>?_
    by_cases hji:i=j
    ·subst hji
     rw [usAt_eq k1] at hd
     ð⟨x,hx⟩:=updGet_in hd
     rw [hu] at hx;cases hx
    ·~getD_set_ne false hji
  ·have hset:(L.setIfInBounds i true).getD i false=true:=by
    have:i<L.size:=by omega
    simp [Array.getD,this]
   rw [h2.same s λhin=>?_]
   ·&hF s hs λj hjs hLj=>?_
    by_cases hji:i=j
    ·subst hji;rw [hun'] at hLj;cases hLj
    ·~hj j hjs (by rw [getD_set_ne false hji];~hLj)
   ·~hj i hlt hset (by rw [usAt_eq k1];~hin)
end
def DWp(P:Program)(nt n0:Nat)(c:Code)(Q:Exit->DSt->Prop)(st:DSt):Prop :=
 ∀ C:Cx,C.nt=nt->C.n0=n0->∀ a w,Sim C st a w->Code.wp P c (λe a w=>∃ st',Q e st'/\Sim C st' a w) a w
section
variable{P:Program}{nt n0:Nat}{Q:Exit->DSt->Prop}{st:DSt}
theorem DWp.mono{c:Code}{Q':Exit->DSt->Prop}(h:DWp P nt n0 c Q st)(hq:∀ e s,Q e s->Q' e s):DWp P nt n0 c Q' st :=
 λC h1 h2 a w hs=>wp_mono (h C h1 h2 a w hs) λe a w ⟨s,k1,k2⟩=>⟨s,hq e s k1,k2⟩
theorem d_skip(h:Q .normal st):DWp P nt n0 .skip Q st:=λC _ _ a w hs=>wp_skip ⟨st,h,hs⟩
theorem d_exit{id:Nat}(h:Q (.exit id) st):DWp P nt n0 (.exit id) Q st:=λC _ _ a w hs=>wp_exit ⟨st,h,hs⟩
theorem d_ret(h:Q .ret st):DWp P nt n0 .ret Q st:=λC _ _ a w hs=>wp_ret ⟨st,h,hs⟩
theorem d_label{l:Nat}(h:Q .normal st):DWp P nt n0 (.label l) Q st:=λC _ _ a w hs=>wp_label ⟨st,h,hs⟩
def Qcp(K:DSt->Prop)(Q:Exit->DSt->Prop):Exit->DSt->Prop
 | .normal,s=>K s
 | e,s=>Q e s
theorem d_seq{x y:Code}(h:∀ K:DSt->Prop,(∀ s,DWp P nt n0 y Q s->K s)->DWp P nt n0 x (Qcp K Q) st):DWp P nt n0 (.seq x y) Q st:=λC h1 h2 a w hs=>by
 &wp_seq (wp_mono (h (DWp P nt n0 y Q) (λ_ h=>h) C h1 h2 a w hs) λe a w ⟨s,k1,k2⟩=>?_)
 cases e with
 | normal=>~k1 C h1 h2 a w k2
 | _=>~⟨s,k1,k2⟩
theorem d_cond{c:Operand}{x y:Code}{t:Bool}(hc:opd st.env c = .lit (.bool t))(h:DWp P nt n0 (if t then x else y) Q st):DWp P nt n0 (.cond c x y) Q st:=λC h1 h2 a w hs=>by
 have:a.eval c = .bool t:=by
  ð⟨m,_,hm,_⟩:=hs
  have:=opd_rep (m:=m) (a:=a) (env:=st.env) (x:=c) λt _=>hm.env t
  rw [hc] at this
  ~this.lit_inv
 ~wp_cond this (h C h1 h2 a w hs)
theorem d_condT{c:Operand}{x y:Code}(hc:opd st.env c = .lit (.bool true))(h:DWp P nt n0 x Q st):DWp P nt n0 (.cond c x y) Q st:=d_cond hc h
theorem d_condF{c:Operand}{x y:Code}(hc:opd st.env c = .lit (.bool false))(h:DWp P nt n0 y Q st):DWp P nt n0 (.cond c x y) Q st:=d_cond hc h
def blockD(id:Nat)(Q:Exit->DSt->Prop):Exit->DSt->Prop
 | .exit id',s=>if id'=id then Q .normal s else Q (.exit id') s
 | e,s=>Q e s
theorem d_block{id:Nat}{c:Code}(h:DWp P nt n0 c (blockD id Q) st):DWp P nt n0 (.block id c) Q st:=λC h1 h2 a w hs=>by
 &wp_block (wp_mono (h C h1 h2 a w hs) λe a w ⟨s,k1,k2⟩=>?_)
 cases e with
 | exit id' =>
  simp only [blockD,Exit.inBlock] at k1 ⊢
  split
  ·rename_i hi
   rw [if_pos hi] at k1
   ~⟨s,k1,k2⟩
  ·rename_i hi
   rw [if_neg hi] at k1
   ~⟨s,k1,k2⟩
 | _=>~⟨s,k1,k2⟩
def QV(P:Program)(ops:Array Oper)(l:List Oper)(st:DSt)(K:QfE->DSt->Prop):Prop :=
 ∃ outs env' sto' nxt',Run P ops l st.env st.sto st.nxt outs env' sto' nxt'/\K outs ⟨env',sto',nxt'⟩
theorem QV.nil{ops:Array Oper}{st:DSt}{K:QfE->DSt->Prop}(h:K [] st):QV P ops [] st K:=⟨[],st.env,st.sto,st.nxt,.nil,h⟩
theorem QV.cons'{ops:Array Oper}{o:Oper}{l:List Oper}{st:DSt}{K:QfE->DSt->Prop}{out:Out}(h:Qd0 P ops o st.env st.sto st.nxt out)(k:QV P ops l ⟨st.env.put o.dst out.d,st.sto.upd out.us,st.nxt+out.n⟩ λouts=>K ((out,st.nxt) :: outs)):QV P ops (o :: l) st K:=by
 ð⟨outs,env',sto',nxt',h1,h2⟩:=k
 ~⟨_,env',sto',nxt',.cons h h1,h2⟩
theorem QV.op{ops:Array Oper}{dst:Option Nat}{op:Op}{ty:Nat}{pos:String}{after:Array Edge}{l:List Oper}{env:Env}{sto:Sto}{nxt:Nat}{K:QfE->DSt->Prop}{d:DV}{us:List (Nat×Option Ob)}{rs:List Nat}{n:Nat}
  (h:Qv P ⟨dst,op,ty,pos,after,none⟩ env sto nxt ⟨d,us,rs,n⟩)(k:QV P ops l ⟨env.put dst d,sto.upd us,nxt+n⟩ λouts=>K ((⟨d,us,rs,n⟩,nxt) :: outs)):QV P ops (⟨dst,op,ty,pos,after,none⟩ :: l) ⟨env,sto,nxt⟩ K:=QV.cons' h k
theorem d_region{id:Nat}{ops:Array Oper}{l:List Oper}(hl:ops=l.toArray)(h:QV P l.toArray l st λouts s=>seqB nt l outs=true/\Q .normal s):DWp P nt n0 (.region id ops false) Q st:=λC h1 h2 a w hs=>by
 subst hl
 ð⟨outs,env',sto',nxt',k1,k2,k3⟩:=h
 subst h1
 ~wp_region_lit (run_seq k1 k2 (λa w hs=>⟨_,k3,hs⟩) a w hs)
theorem Sim.drew{C:Cx}{st:DSt}{a:Act}{w:World}(h:Sim C st a w):Sim C st a { w with drawn:=w.drawn+1 }:=by
 ð⟨m,rfl,hm,hF⟩:=h
 have he:Ext m ⟨{ m.w with drawn:=m.w.drawn+1 },m.M,m.σ⟩:=⟨Wl _,rfl,λ_ _ h=>⟨rfl,h⟩,λ_ x h=>⟨x,h,λe' h=>⟨e',h,rfl,rfl⟩⟩⟩
 have hl:Loc [] m ⟨{ m.w with drawn:=m.w.drawn+1 },m.M,m.σ⟩:=⟨he,λ_ _=>rfl,λ_ _ _=>rfl⟩
 ~⟨⟨{ m.w with drawn:=m.w.drawn+1 },m.M,m.σ⟩,rfl,⟨⟨hm.inv.os,hm.inv.tape,hm.inv.output,hm.inv.size,hm.inv.old,hm.inv.inj,hm.inv.at_,hm.inv.lt,hm.inv.wf,hm.inv.tab⟩,hm.M,hm.size,hm.defers,hm.org,hm.lim0,λk=>(hm.env k).ext he,λs ob hs=>Holds.loc hm.inv hl Os (hm.sto s ob hs)⟩,hF⟩
theorem d_anyK{K:List Nat}{id:Nat}{ops:Array Oper}{l:List Oper}(hm:P.follows .mixedOrders=true)(hl:ops=l.toArray)(hk:backB l.toArray=true)(h:QV P l.toArray l st λouts s=>(seqB nt l outs=true/\ordK K l.toArray outs=true/\cstP st.sto st.nxt outs K)/\Q .normal s):DWp P nt n0 (.region id ops true) Q st:=λC h1 h2 a w hs=>by
 subst hl
 ð⟨outs,env',sto',nxt',k1,⟨k2,k3,k5⟩,k4⟩:=h
 subst h1
 &wp_region_any hm (run_any (ops:=l.toArray) k1 k2 hk k3 k5 (λa w hs=>⟨_,k4,hs⟩) l.toArray.size (Array.replicate l.toArray.size false) a _ Os (by simp [cnt]) (λi hi=>by simp [Array.getD] at hi) ?_)
 ð⟨m,hw,hm',hF⟩:=hs.drew
 have all:∀ j,(Array.replicate l.toArray.size false).getD j false=false:=λj=>by simp [Array.getD]
 &⟨m,hw,hm'.eq (λt=>?_) (λs=>?_),λs hs _=>hF s hs⟩
 ·~Qdq (i:=0) (WT _) (λj hj=>by omega) λj _ _ _=>all j
 ·~Qdp (i:=0) (WT _) (λj hj=>by omega) λj _ _ _=>all j
theorem d_any{id:Nat}{ops:Array Oper}{l:List Oper}(hm:P.follows .mixedOrders=true)(hl:ops=l.toArray)(hk:backB l.toArray=true)(h:QV P l.toArray l st λouts s=>(seqB nt l outs=true/\ordB l.toArray outs=true)/\Q .normal s):DWp P nt n0 (.region id ops true) Q st:=by
 ð⟨outs,env',sto',nxt',k1,⟨k2,k3⟩,k4⟩:=h
 ~d_anyK (K:=[]) hm hl hk ⟨outs,env',sto',nxt',k1,⟨k2,k3,trivial⟩,k4⟩
abbrev Ren:=List (Nat×Nat)
def Ren.get:Ren->Nat->Option Nat
 | [],_=>none
 | (k,s) :: l,j=>cond (Nat.beq j k) (some s) (Ren.get l j)
mutual
inductive Cv (sto:Sto) (ρ:Ren):DV->DV->List Nat->Prop
 | any {d:DV}:Cv sto ρ d .any []
 | lit {v:Value}:Cv sto ρ (.lit v) (.lit v) []
 | sl {xs:List (List DV)}:Cv sto ρ (.sl xs) (.sl xs) []
 | nil:Cv sto ρ (.lit (.slice none 0 0)) (.sl []) []
 | frz {s off len:Nat} {ob:Ob} {xs:List (List DV)}:sto.get s=some ob->ob.arr=true->off+len<=ob.els.length->(ob.els.drop off).take len=xs->Cv sto ρ (.own s off len) (.sl xs) [s]
 | own {s s' off len:Nat}:ρ.get s'=some s->Cv sto ρ (.own s off len) (.own s' off len) []
 | ptr {s s' i j:Nat}:ρ.get s'=some s->Cv sto ρ (.ptr s i j) (.ptr s' i j) []
 | pp {xs:List DV}:Cv sto ρ (.pp xs) (.pp xs) []
 | dp {z:Nat} {xs:List (List DV)}:Cv sto ρ (.dp z xs) (.dp z xs) []
 | dfz {s len:Nat} {ob:Ob} {xs:List (List DV)}:sto.get s=some ob->ob.arr=false->(∀ x∈ob.els,∀ d∈x,dpB d=true)->len=ob.els.length->ob.els.map (·.map undp)=xs->Cv sto ρ (.own s 0 len) (.sl xs) [s]
 | agg {xs ys:List DV} {r:List Nat}:CvL sto ρ xs ys r->Cv sto ρ (.agg xs) (.agg ys) r
 | tup {xs ys:List DV} {r:List Nat}:CvL sto ρ xs ys r->Cv sto ρ (.tup xs) (.tup ys) r
 | fn {f:FuncId} {xs ys:List DV} {r:List Nat}:CvL sto ρ xs ys r->Cv sto ρ (.fn f xs) (.fn f ys) r
inductive CvL (sto:Sto) (ρ:Ren):List DV->List DV->List Nat->Prop
 | nil:CvL sto ρ [] [] []
 | cons {x y:DV} {xs ys:List DV} {r r':List Nat}:Cv sto ρ x y r->CvL sto ρ xs ys r'->CvL sto ρ (x :: xs) (y :: ys) (r++r')
end
def EntIs(σ σ':Nat->Option (Option Ent))(ρ:Ren):Prop:=∀ s' s,ρ.get s'=some s->(σ s=some none->σ' s'=some none)/\∀ e,σ s=some (some e)->σ' s'=some none\/∃ e',σ' s'=some (some e')/\e'.esz=e.esz/\e'.blk=e.blk
def HoldsF(m:Mem)(sto:Sto)(rs:List Nat):Prop:=∀ s∈rs,∀ ob,sto.get s=some ob->∃ z,Holds m s { ob with frz:=z }
theorem QU.f{m:Mem}{sto:Sto}{rs:List Nat}(h:QU m sto rs):HoldsF m sto rs:=λs hs ob hob=>⟨ob.frz,h s hs ob hob⟩
theorem Cv.rep{sto:Sto}{ρ:Ren}{m m':Mem}(hw:m'.w=m.w)(hno:∀ k,m'.no k->m.no k)(hσ:EntIs m.σ m'.σ ρ){F:Fm}(hI:Inv F m){d d':DV}{fr:List Nat}(h:Cv sto ρ d d' fr)
  (hH:HoldsF m sto fr)(hfr:∀ s∈fr,∀ e g,m.σ s=some (some e)->e.has g->¬ m'.no g){v:Value}(hr:Rep m v d):Rep m' v d':=by
 have hp:∀ {v d},PRep m.w m.no v d->PRep m'.w m'.no v d:=λh=>PRep.ext (by rw [hw];~Wl _) (λk _ hk=>⟨by rw [hw],λh=>hk (hno k h)⟩) h
 &Cv.rec (motive_1:=λd d' fr _=>HoldsF m sto fr->(∀ s∈fr,∀ e g,m.σ s=some (some e)->e.has g->¬ m'.no g)->∀ v,Rep m v d->Rep m' v d')
  (motive_2:=λxs ys fr _=>HoldsF m sto fr->(∀ s∈fr,∀ e g,m.σ s=some (some e)->e.has g->¬ m'.no g)->xs.length=ys.length/\∀ (i:Nat) x y,xs[i]?=some x->ys[i]?=some y->∀ v,Rep m v x->Rep m' v y)
  ?_ ?_ ?_ ?_ ?_ ?_ ?_ ?_ ?_ ?_ ?_ ?_ ?_ ?_ ?_ h hH hfr v hr
 ·intro d _ _ v _;~.any v
 ·intro u _ _ v hr;rw [hr.lit_inv];~.pure (.lit u hr.lit_one)
 ·intro xs _ _ v hr;~.pure (hp hr.sl_inv)
 ·intro _ _ v hr;rw [hr.lit_inv];~.pure (.nil _ _ (WT _))
 ·intro s off len ob xs h1 h2 h3 h4 hH hfr v hr
  subst h4
  ð⟨z,hz⟩:=hH s Os ob h1
  ð⟨e,k1,k2,k3,k6⟩:=X5 hr hz
  rcases k6 with ⟨g,cap,k6,rfl,k7,k8⟩ | ⟨k6,rfl,rfl,rfl,k7,k8⟩
  ·have:=QbS (no:=m'.no) k8 h2 (hfr s Os e g k1 (Ent.has_blk k6)) hno h3
   rw [<- hw] at this
   ~.pure this
  ·rw [show ob.els=[] from k7];~.pure (.nil _ _ (WT _))
 ·intro s s' off len hρ _ _ v hr
  ð⟨q1,q2⟩:=hσ s' s hρ
  cases hr with
  | pure h=>cases h
  | @own _ e g cap _ _ k1 k2 k3 k4 =>
   rcases q2 e k1 with h | ⟨e',h1,h2,h3⟩
   ·~.ownOld h
   ·rw [<- h2];~.own h1 (h3.trans k2) k3 k4
  | @ownNil _ e k1 k2 =>
   rcases q2 e k1 with h | ⟨e',h1,h2,h3⟩
   ·~.ownOld h
   ·~.ownNil h1 (h3.trans k2)
  | ownOld k1=>~.ownOld (q1 k1)
 ·intro s s' i j hρ _ _ v hr
  ð⟨q1,q2⟩:=hσ s' s hρ
  cases hr with
  | pure h=>cases h
  | @ptr _ e g cap _ _ k1 k2 =>
   rcases q2 e k1 with h | ⟨e',h1,h2,h3⟩
   ·~.ptrOld h
   ·rw [<- h2];~.ptr h1 (h3.trans k2)
  | ptrOld k1=>~.ptrOld (q1 k1)
 ·intro xs _ _ v hr
  ð⟨b,off,f,rfl,h1,h2,h3,h4⟩:=hr.pp_inv
  ~.pp f (λh=>h1 (hno b h)) (by rw [hw];~h2) (λj d hd=>by rw [hw];~h3 j d hd) (λj d hd=>hp (h4 j d hd))
 ·intro z xs _ _ v hr;~.dp v
 ·intro s len ob xs h1 h2 h3 h4 h5 hH hfr v hr
  subst h4
  subst h5
  ð⟨z,hz⟩:=hH s Os ob h1
  ð⟨e,k1,k2,k3,k6⟩:=X5 hr hz
  rcases k6 with ⟨g,cap,k6,rfl,k7,k8⟩ | ⟨k6,rfl,_,_,k7,k8⟩
  ·have:=prep_of_deep (no:=m'.no) k8 (deep_get hz k1 k6) h2 (hfr s Os e g k1 (Ent.has_blk k6)) (λb hb=>hfr s Os e b k1 (.inr hb)) hno h3
   rw [<- hw] at this
   rw [Un,Uw]
   ~.pure this
  ·rw [show ob.els=[] from k7];~.pure (.nil _ _ (WT _))
 ·intro xs ys r _ ih hH hfr v hr
  ð⟨q1,q2⟩:=ih hH hfr
  ð⟨vs,rfl,k1,k2⟩:=hr.agg_inv
  &.agg Oo λi u y hu hy=>?_
  have hlt:i<xs.length:=by
   rcases Ws i ys.length with h' | h'
   ·omega
   ·rw [Wg h'] at hy;cases hy
  ~q2 i _ y (Wa hlt) hy u (k2 i u _ hu (Wa hlt))
 ·intro xs ys r _ ih hH hfr v hr
  ð⟨q1,q2⟩:=ih hH hfr
  ð⟨vs,rfl,k1,k2⟩:=hr.tup_inv
  &.tup Oo λi u y hu hy=>?_
  have hlt:i<xs.length:=by
   rcases Ws i ys.length with h' | h'
   ·omega
   ·rw [Wg h'] at hy;cases hy
  ~q2 i _ y (Wa hlt) hy u (k2 i u _ hu (Wa hlt))
 ·intro f xs ys r _ ih hH hfr v hr
  ð⟨q1,q2⟩:=ih hH hfr
  ð⟨vs,rfl,k1,k2⟩:=hr.fn_inv
  &.fn Oo λi u y hu hy=>?_
  have hlt:i<xs.length:=by
   rcases Ws i ys.length with h' | h'
   ·omega
   ·rw [Wg h'] at hy;cases hy
  ~q2 i _ y (Wa hlt) hy u (k2 i u _ hu (Wa hlt))
 ·intro _ _;~⟨rfl,λi x y hx=>by simp at hx⟩
 ·intro x y xs ys r r' _ _ ih1 ih2 hH hfr
  ð⟨q1,q2⟩:=ih2 (λs hs=>hH s (Wj _ hs)) (λs hs=>hfr s (Wj _ hs))
  &⟨by simp [q1],λi x' y' hx hy v hr=>?_⟩
  cases i with
  | zero =>
   simp only [WJ,Wx] at hx hy
   subst hx
   subst hy
   ~ih1 (λs hs=>hH s (Wf _ hs)) (λs hs=>hfr s (Wf _ hs)) v hr
  | succ i=>~q2 i x' y' (by simpa using hx) (by simpa using hy) v hr
end
inductive CvO(sto:Sto)(ρ:Ren):Ob->Ob->List Nat->Prop
 | arr {ob:Ob}:ob.arr=true->CvO sto ρ ob ob []
 | rows {z:Nat} {fz:Bool} {xs ys:List (List DV)} {fr:List Nat}:xs.length=ys.length->(∀ (i:Nat) x y,xs[i]?=some x->ys[i]?=some y->∃ r,CvL sto ρ x y r/\∀ s∈r,s∈fr)->(∀ s∈fr,(sto.get s).isSome=true)->CvO sto ρ ⟨z,false,fz,xs⟩ ⟨z,false,fz,ys⟩ fr
inductive CvS(sto:Sto)(ρ:Ren):Sto->List Nat->Prop
 | nil:CvS sto ρ [] []
 | cons {s' s:Nat} {ob ob':Ob} {l:Sto} {r r':List Nat}:ρ.get s'=some s->sto.get s=some ob->CvO sto ρ ob ob' r->CvS sto ρ l r'->CvS sto ρ ((s',ob') :: l) (r++r')
inductive CvE(sto:Sto)(ρ:Ren)(env:Env):Env->List Nat->Prop
 | nil:CvE sto ρ env [] []
 | cons {k:Nat} {d:DV} {l:Env} {r r':List Nat}:Cv sto ρ (env.get k) d r->CvE sto ρ env l r'->CvE sto ρ env ((k,d) :: l) (r++r')
def QeK:List Nat->Bool
 | []=>true
 | x :: l=>!l.contains x && QeK l
def okR(ρ:Ren)(fr:List Nat)(n0 nxt:Nat):Bool :=
 QeK (ρ.map (·.2)) && (ρ.all λp=>decide (p.1<nxt) && (!decide (p.1<n0) || p.1 == p.2) && !fr.contains p.2) && decide (n0<=nxt)
theorem Ren.get_mem{ρ:Ren}{s' s:Nat}(h:ρ.get s'=some s):(s',s)∈ρ:=by
 induction ρ with
 | nil=>cases h
 | cons p l ih =>
  ð⟨k,x⟩:=p
  simp only [Ren.get,Jh] at h
  split at h
  ·rename_i hk
   injection h with h
   subst hk
   subst h
   simp
  ·~Wm _ (ih h)
theorem QcY:∀ {ρ:Ren},QeK (ρ.map (·.2))=true->∀ {a b s:Nat},(a,s)∈ρ->(b,s)∈ρ->a=b
 | [],_,_,_,_,h,_=>by cases h
 | (k,x) :: l,hn,a,b,s,ha,hb=>by
  simp only [Vg,QeK,W9,Vy] at hn
  ð⟨n1,n2⟩:=hn
  have notin:∀ c,(c,x)∈l->False:=λc hc=>by
   have:(l.map (·.2)).contains x=true:=by
    rw [Uc]
    ~Wk.2 ⟨(c,x),hc,rfl⟩
   rw [n1] at this;cases this
  rcases Wt.1 ha with h1 | h1 <;> rcases Wt.1 hb with h2 | h2
  ·injection h1 with h1 _;injection h2 with h2 _;rw [h1,h2]
  ·injection h1 with h1 h3;subst h3;~(notin _ h2).elim
  ·injection h2 with h1 h3;subst h3;~(notin _ ‹_›).elim
  ·~QcY n2 h1 h2
theorem CvL.known{sto:Sto}{ρ:Ren}{xs ys:List DV}{r:List Nat}(h:CvL sto ρ xs ys r):∀ s∈r,(sto.get s).isSome=true:=by
 &CvL.rec (motive_1:=λd d' r _=>∀ s∈r,(sto.get s).isSome=true) (motive_2:=λxs ys r _=>∀ s∈r,(sto.get s).isSome=true) ?_ ?_ ?_ ?_ ?_ ?_ ?_ ?_ ?_ ?_ ?_ ?_ ?_ ?_ ?_ h
 ·intro d s hs;cases hs
 ·intro v s hs;cases hs
 ·intro xs s hs;cases hs
 ·intro s hs;cases hs
 ·intro s off len ob xs h1 _ _ _ t ht
  obtain rfl:=Wo.1 ht
  rw [h1];rfl
 ·intro _ _ _ _ _ s hs;cases hs
 ·intro _ _ _ _ _ s hs;cases hs
 ·intro _ s hs;cases hs
 ·intro _ _ s hs;cases hs
 ·intro s len ob xs h1 _ _ _ _ t ht
  obtain rfl:=Wo.1 ht
  rw [h1];rfl
 ·intro _ _ _ _ ih;~ih
 ·intro _ _ _ _ ih;~ih
 ·intro _ _ _ _ _ ih;~ih
 ·intro s hs;cases hs
 ·intro _ _ _ _ _ _ _ _ ih1 ih2 s hs
  rcases Wn.1 hs with h | h
  ·~ih1 s h
  ·~ih2 s h
theorem CvO.box{sto:Sto}{ρ:Ren}{z:Nat}{fz:Bool}{cs cs':List DV}{r:List Nat}(h:CvL sto ρ cs cs' r):CvO sto ρ ⟨z,false,fz,[cs]⟩ ⟨z,false,fz,[cs']⟩ r :=
 .rows rfl (λi x y hx hy=>by
  cases i with
  | zero =>
   simp only [WJ,Wx] at hx hy
   subst hx
   subst hy
   ~⟨r,h,λs hs=>hs⟩
  | succ i=>simp at hx) h.known
theorem CvO.same{sto:Sto}{ρ:Ren}{z:Nat}{fz:Bool}{xs:List (List DV)}(h:∀ x∈xs,∀ d∈x,dpB d=true):CvO sto ρ ⟨z,false,fz,xs⟩ ⟨z,false,fz,xs⟩ [] :=
 .rows rfl (λi x y hx hy=>by
  rw [hx] at hy
  injection hy with hy
  subst hy
  have hq:=h x (Wp hx)
  &⟨[],?_,λs hs=>by cases hs⟩
  clear h hx
  induction x with
  | nil=>~.nil
  | cons d l ih =>
   have h1:=hq d (WA ..)
   have h2:=ih λd hd=>hq d (Wm _ hd)
   have h3:Cv sto ρ d d []:=by
    cases d with
    | lit v=>~.lit
    | sl xs=>~.sl
    | dp z l=>~.dp
    | _=>cases h1
   ~.cons h3 h2) (λs hs=>by cases hs)
theorem Cv.to_dp{sto:Sto}{ρ:Ren}{d:DV}{z:Nat}{l:List (List DV)}{r:List Nat}(h:Cv sto ρ d (.dp z l) r):d = .dp z l:=by cases h;rfl
theorem CvL.to_dp{sto:Sto}{ρ:Ren}:∀ {xs ys:List DV} {r:List Nat},CvL sto ρ xs ys r->∀ (j:Nat) z l,ys[j]?=some (.dp z l)->xs[j]?=some (.dp z l)
 | _,_,_,.nil,j,z,l,h=>by simp at h
 | _,_,_,.cons h1 h2,j,z,l,h=>by
  cases j with
  | zero=>simp only [WJ,Wx] at h ⊢;subst h;~h1.to_dp
  | succ j=>simpa using CvL.to_dp h2 j z l (by simpa using h)
theorem Deep.conv{m m':Mem}{inn:Nat->Prop}{z g:Nat}{fz:Bool}{xs ys:List (List DV)}(d:Deep m inn ⟨z,false,fz,xs⟩ g)(hw:m'.w=m.w)(hr:∀ {ob b cap},ob.arr=true->Row m ob b cap->Row m' ob b cap)
  (h:∀ (i:Nat) y (j:Nat) z l,ys[i]?=some y->y[j]?=some (.dp z l)->∃ x,xs[i]?=some x/\x[j]?=some (.dp z l)):Deep m' inn ⟨z,false,fz,ys⟩ g:=by
 ð⟨B,d1,d2⟩:=d
 &⟨B,λi y j z l h1 h2=>?_,d2⟩
 ð⟨x,k1,k2⟩:=h i y j z l h1 h2
 ð⟨u,q1,q2⟩:=d1 i x j z l k1 k2
 &⟨u,by rw [hw];~q1,?_⟩
 cases hB:B i j with
 | none=>rw [hB] at q2;~q2
 | some b =>
  rw [hB] at q2
  ð⟨p1,cp,p2,p3⟩:=q2
  ~⟨p1,cp,p2,hr rfl p3⟩
section
variable{P:Program}{nt n0:Nat}{Q:Exit->DSt->Prop}{st:DSt}
def renσ(σ:Nat->Option (Option Ent))(ρ:Ren)(fr:List Nat)(n0:Nat):Nat->Option (Option Ent):=λs'=>match ρ.get s' with
 | some s=>if s∈fr then (σ s).map (λx=>x.map λe=>{ e with mu:=false }) else σ s
 | none=>if s' < n0 then some none else none
theorem weak_mem{F:Fm}{m:Mem}(hI:Inv F m){sto:Sto}(hs:∀ s ob,sto.get s=some ob->Holds m s ob){ρ:Ren}{fr:List Nat}{nxt':Nat}(hok:okR ρ fr n0 nxt'=true){S:Sto}{fr':List Nat}(hS:CvS sto ρ S fr')(hsub:∀ s∈fr',s∈fr)
  {σ0:Nat->Option (Option Ent)}(horg:QcT σ0 m.σ)(hlim:∀ s,n0<=s->σ0 s=none) :
  ∃ m':Mem,m'.w=m.w/\m'.M=m.M/\Inv F m'/\(∀ d d' r v,Cv sto ρ d d' r->(∀ s∈r,s∈fr)->Rep m v d->Rep m' v d')/\(∀ s ob,S.get s=some ob->Holds m' s ob)/\QcT σ0 m'.σ/\∀ s,nxt'<=s->m'.σ s=none:=by
 simp only [okR,W9,WY,decide_eq_true_eq,Vy] at hok
 ð⟨⟨o1,o2⟩,o3⟩:=hok
 have key:∀ {s' s},ρ.get s'=some s->s' < nxt'/\(s' < n0->s'=s)/\s∉fr:=λ{s' s} h=>by
  ð⟨⟨q1,q2⟩,q3⟩:=o2 _ (Ren.get_mem h)
  dsimp only at q1 q2 q3
  &⟨q1,λhn=>?_,λhin=>?_⟩
  ·simpa [hn] using q2
  ·rw [Uc.2 hin] at q3;cases q3
 let m':Mem:=⟨m.w,m.M,renσ m.σ ρ fr n0⟩
 have ent:∀ {s' e},m'.σ s'=some (some e)->∃ s,ρ.get s'=some s/\m.σ s=some (some e):=λ{s' e} h=>by
  change renσ m.σ ρ fr n0 s'=_ at h
  unfold renσ at h
  split at h
  ·rename_i s hr
   rw [if_neg (key hr).2.2] at h
   ~⟨s,hr,h⟩
  ·split at h <;> simp at h
 have at':∀ {s' s},ρ.get s'=some s->m'.σ s'=m.σ s:=λ{s' s} hr=>by
  show renσ m.σ ρ fr n0 s'=_
  unfold renσ
  rw [hr]
  dsimp only
  rw [if_neg (key hr).2.2]
 have hno:∀ k,m'.no k->m.no k:=λk h=>by
  rcases h with h | ⟨s',e,h1,h2,h3⟩
  ·~.inl h
  ·ð⟨s,_,k2⟩:=ent h1
   ~.inr ⟨s,e,k2,h2,h3⟩
 have hσ:EntIs m.σ m'.σ ρ:=λs' s hr=>by
  rw [at' hr]
  ~⟨id,λe he=>.inr ⟨e,he,rfl,rfl⟩⟩
 have hfr:∀ s∈fr,∀ e g,m.σ s=some (some e)->e.has g->¬ m'.no g:=λs hs' e g h1 h2 h=>by
  rcases h with h | ⟨t',e',k1,k2,k3⟩
  ·~(hI.at_ s e g h1 h2).2.1 h
  ·ð⟨t,j1,j2⟩:=ent k1
   have:=hI.inj s t e e' g h1 j2 h2 k3
   subst this
   ~(key j1).2.2 hs'
 have rep:∀ d d' r v,Cv sto ρ d d' r->(∀ s∈r,s∈fr)->Rep m v d->Rep m' v d':=λd d' r v hc hr hv =>
  hc.rep (m:=m) (m':=m') rfl hno hσ hI (λs hs' ob hob=>⟨ob.frz,hs s ob hob⟩) (λs hs'=>hfr s (hr s hs')) hv
 have hp:∀ {v d},PRep m.w m.no v d->PRep m'.w m'.no v d:=λh=>PRep.ext (Wl _) (λk _ hk=>⟨rfl,λh=>hk (hno k h)⟩) h
 &⟨m',rfl,rfl,⟨hI.os,hI.tape,hI.output,hI.size,hI.old,?_,?_,hI.lt,λs e g c h1 h2=>by ð⟨t,_,j2⟩:=ent h1;~hI.wf t e g c j2 h2,hI.tab⟩,rep,?_,?_,?_⟩
 ·intro s1 s2 e e' g h1 h2 h3 h4
  ð⟨t1,j1,j2⟩:=ent h1
  ð⟨t2,k1,k2⟩:=ent h2
  have:=hI.inj t1 t2 e e' g j2 k2 h3 h4
  subst this
  ~QcY o1 (Ren.get_mem j1) (Ren.get_mem k1)
 ·intro s e g h1 h2
  ð⟨t,j1,j2⟩:=ent h1
  ~hI.at_ t e g j2 h2
 ·induction hS with
  | nil=>intro s ob h;cases h
  | @cons s' s ob ob' l r r' h1 h2 h3 _ ih =>
   intro t ob1 ht
   rw [Sto.get_cons] at ht
   split at ht
   ·rename_i hts
    injection ht with ht
    subst hts
    subst ht
    ð⟨e,q1,q2,q3,q4⟩:=hs s ob h2
    have rows:∀ {ob b cap},ob.arr=true->Row m ob b cap->Row m' ob b cap:=λ{ob b cap} ha q4=>by
     ð⟨cur,T,c1,c2,c3⟩:=q4.cells
     &⟨⟨cur,T,c1,c2,λi x j d hx hd=>?_⟩,q4.len,q4.max,q4.pos,q4.sz⟩
     ð⟨u,hu,hr1,hr2⟩:=c3 i x j d hx hd
     rw [ha] at hr2
     ~⟨u,hu,hr1,by rw [ha];~hp hr2⟩
    cases h3 with
    | arr ha =>
     &⟨e,by rw [at' h1];~q1,q2,q3,?_⟩
     cases hb:e.blk with
     | none=>rw [hb] at q4;~q4
     | some p =>
      ð⟨g,cap⟩:=p
      rw [hb] at q4
      have:=rows ha q4.1
      ~⟨this,this.deep ha _⟩
    | @rows z fz xs ys frr hlen hcv _ =>
     &⟨e,by rw [at' h1];~q1,q2,q3,?_⟩
     have at_:∀ {i:Nat} {y},ys[i]?=some y->∃ x,xs[i]?=some x:=λ{i y} hy=>by
      rcases Ws i xs.length with h' | h'
      ·~⟨_,Wa h'⟩
      ·rw [Wg Oo] at hy;cases hy
     cases hb:e.blk with
     | none =>
      rw [hb] at q4
      ð⟨q4,q5⟩:=q4
      &⟨?_,q5⟩
      have:xs=[]:=q4
      subst this
      ~Vp.1 hlen.symm
     | some p =>
      ð⟨g,cap⟩:=p
      rw [hb] at q4
      ð⟨q4,q5⟩:=q4
      ð⟨cur,T,c1,c2,c3⟩:=q4.cells
      have cells:∀ {xs ys:List DV} {r:List Nat},CvL sto ρ xs ys r->(∀ s∈r,s∈fr)->xs.length=ys.length/\∀ (i:Nat) x y,xs[i]?=some x->ys[i]?=some y->∀ v,Rep m v x->Rep m' v y:=by
       intro xs
       induction xs with
       | nil=>intro ys r h _;cases h;~⟨rfl,λi x y hx=>by simp at hx⟩
       | cons x xs ihx =>
        intro ys r h hr
        cases h with
        | @cons _ y _ ys r1 r2 hc hl =>
         ð⟨z1,z2⟩:=ihx hl λs h=>hr s (Wj _ h)
         &⟨by simp [z1],λi x' y' hx hy v hv=>?_⟩
         cases i with
         | zero =>
          simp only [WJ,Wx] at hx hy
          subst hx
          subst hy
          ~rep _ _ _ v hc (λs h=>hr s (Wf _ h)) hv
         | succ i=>~z2 i x' y' (by simpa using hx) (by simpa using hy) v hv
      &⟨⟨⟨cur,T,c1,c2,λi y j d hy hd=>?_⟩,by have:=q4.len;dsimp only at this ⊢;omega,q4.max,q4.pos,λi y hy=>?_⟩,q5.conv rfl rows λi y j z l hy hd=>?_⟩
      ·dsimp only at hy ⊢
       ð⟨x,hx⟩:=at_ hy
       ð⟨r,k1,k2⟩:=hcv i x y hx hy
       ð⟨z1,z2⟩:=cells k1 λs h=>hsub s (Wf _ (k2 s h))
       have hlt:j<x.length:=by
        rcases Ws j y.length with h' | h'
        ·omega
        ·rw [Wg h'] at hd;cases hd
       ð⟨u,hu,hr1,hr2⟩:=c3 i x j x[j] hx (Wa hlt)
       ~⟨u,hu,hr1,z2 j _ d (Wa hlt) hd u hr2⟩
      ·dsimp only at hy ⊢
       ð⟨x,hx⟩:=at_ hy
       ð⟨r,k1,k2⟩:=hcv i x y hx hy
       ð⟨z1,z2⟩:=cells k1 λs h=>hsub s (Wf _ (k2 s h))
       have:=q4.sz i x hx
       dsimp only at this
       omega
      ·ð⟨x,hx⟩:=at_ hy
       ð⟨r,k1,k2⟩:=hcv i x y hx hy
       ~⟨x,hx,k1.to_dp j z l hd⟩
   ·~ih (λs h=>hsub s (Wj _ h)) t ob1 ht
 ·intro s x0 hx0
  have hn:s<n0:=by
   rcases Ws s n0 with h | h
   ·~h
   ·rw [hlim s h] at hx0;cases hx0
  cases hr:ρ.get s with
  | none=>~⟨none,by show renσ m.σ ρ fr n0 s=_;unfold renσ;rw [hr];simp [hn],λe h=>by cases h⟩
  | some t =>
   have:s=t:=(key hr).2.1 hn
   subst this
   rw [at' hr]
   ~horg s x0 hx0
 ·intro s hs'
  show renσ m.σ ρ fr n0 s=none
  unfold renσ
  cases hr:ρ.get s with
  | none=>dsimp only;rw [if_neg Oo]
  | some t=>have:=(key hr).1;omega
def WeakE(n0:Nat)(st st':DSt):Prop:=∃ ρ fr1 fr2,CvE st.sto ρ st.env st'.env fr1/\CvS st.sto ρ st'.sto fr2/\okR ρ (fr1++fr2) n0 st'.nxt=true
theorem CvE.get{sto:Sto}{ρ:Ren}{env env':Env}{fr:List Nat}(h:CvE sto ρ env env' fr)(k:Nat):∃ r,Cv sto ρ (env.get k) (env'.get k) r/\∀ s∈r,s∈fr:=by
 induction h with
 | nil=>~⟨[],.any,λs hs=>by cases hs⟩
 | @cons j d l r r' h1 _ ih =>
  rw [Env.get_cons]
  by_cases hk:k=j
  ·rw [if_pos hk]
   subst hk
   ~⟨r,h1,λs hs=>Wf _ hs⟩
  ·rw [if_neg hk]
   ð⟨r1,q1,q2⟩:=ih
   ~⟨r1,q1,λs hs=>Wj _ (q2 s hs)⟩
theorem WeakE.sim{C:Cx}{st st':DSt}(h:WeakE C.n0 st st'){a:Act}{w:World}(hs:Sim C st a w):Sim C st' a w:=by
 ð⟨ρ,fr1,fr2,h1,h2,h3⟩:=h
 ð⟨m,rfl,hm,hF⟩:=hs
 ð⟨m',k1,k2,k3,k4,k5,k6,k7⟩:=weak_mem hm.inv hm.sto h3 h2 (λs hs=>Wj _ hs) hm.org hm.lim0
 &⟨m',k1,⟨k3,k2.trans hm.M,hm.size,hm.defers,k6,hm.lim0,λk=>?_,k5⟩,k7⟩
 ð⟨r,q1,q2⟩:=h1.get k
 ~k4 _ _ r _ q1 (λs hs=>Wf _ (q2 s hs)) (hm.env k)
def ZM(n0:Nat)(st st':DSt):Prop:=∀ C:Cx,C.n0=n0->∀ a w,Sim C st a w->Sim C st' a w
theorem WeakE.weak{st st':DSt}(h:WeakE n0 st st'):ZM n0 st st':=λC hC a w hs=>WeakE.sim (hC▸h) hs
theorem ZM.sim{C:Cx}{st st':DSt}(h:ZM C.n0 st st'){a:Act}{w:World}(hs:Sim C st a w):Sim C st' a w:=h C rfl a w hs
theorem ZM.trans{st st' st'':DSt}(h:ZM n0 st st')(k:ZM n0 st' st''):ZM n0 st st'':=λC hC a w hs=>k C hC a w (h C hC a w hs)
theorem Qp{c:Code}{st':DSt}(hw:ZM n0 st st')(h:DWp P nt n0 c Q st'):DWp P nt n0 c Q st:=λC h1 h2 a w hs=>h C h1 h2 a w (ZM.sim (h2▸hw) hs)
theorem d_nil{c:Code}{env:Env}{sto:Sto}{nxt:Nat}(k z:Nat)(hz:0<z)(hk:env.get k = .lit (.slice none 0 0))(h:DWp P nt n0 c Q ⟨env.put (some k) (.own nxt 0 0),(nxt,⟨z,true,false,[]⟩) :: sto.drop nxt,nxt+1⟩):DWp P nt n0 c Q ⟨env,sto,nxt⟩:=λC h1 h2 a w hs=>by
 &h C h1 h2 a w ?_
 ð⟨m,rfl,hm,hF⟩:=hs
 have hn:m.σ nxt=none:=hF nxt (Wl _)
 ð⟨t1,t2⟩:=QcV hm.inv hn m.w ⟨z,none,true,noI⟩ rfl rfl rfl (Wl _) (λ_ _=>rfl) (λg c h=>by cases h)
 &⟨⟨m.w,m.M,ZN m.σ nxt (some ⟨z,none,true,noI⟩)⟩,rfl,⟨t1,hm.M,hm.size,hm.defers,hm.org.trans t2.ent,hm.lim0,λj=>?_,λs ob hs=>?_⟩,λs hs=>?_⟩
 ·rw [Env.put_get]
  by_cases hj:j=k
  ·subst hj
   rw [if_pos rfl]
   have hv:=hm.env j
   rw [show env.get j=DV.lit (.slice none 0 0) from hk] at hv
   rw [hv.lit_inv]
   ~.ownNil (Qi _ _ _) rfl
  ·rw [if_neg hj];~(hm.env j).ext t2.toExt
 ·simp only [Sto.get_cons,Sto.drop_get] at hs
  by_cases hs':s=nxt
  ·subst hs'
   rw [if_pos rfl] at hs
   injection hs with hs
   subst hs
   ~⟨_,Qi _ _ _,rfl,rfl,rfl,hz⟩
  ·rw [if_neg hs',if_neg hs'] at hs
   ~Holds.loc hm.inv t2 (by simpa using hs') (hm.sto s ob hs)
 ·dsimp only at hs ⊢
  rw [QZ _ _ Oo]
  ~hF s (by dsimp only;omega)
theorem least_nat{p:Nat->Prop}:∀ (n:Nat),p n->∃ k,p k/\∀ j,p j->k<=j:=by
 intro n
 induction n using Nat.strongRecOn with
 | _ n ih =>
  intro h
  by_cases hx:∃ j,j<n/\p j
  ·ð⟨j,hj,hp⟩:=hx
   ~ih j hj hp
  ·~⟨n,h,λj hj=>by
    rcases Ws j n with h' | h'
    ·~absurd ⟨j,h',hj⟩ hx
    ·~h'⟩
theorem d_loop{α:Type}{body:Code}(I:α->DSt)(p:α->Prop)(μ:α->Nat)(x0:α)(hp:p x0)(h0:ZM n0 st (I x0))
  (hs:∀ x,p x->DWp P nt n0 body (Qcp (λs=>∃ x',p x'/\μ x' < μ x/\ZM n0 s (I x')) Q) (I x)):DWp P nt n0 (.loop body) Q st:=λC h1 h2 a w hw=>by
 subst h2
 let J:Act->World->Nat->Prop:=λa w n=>∃ x,p x/\Sim C (I x) a w/\μ x=n
 have ex:∀ a w,(∃ x,p x/\Sim C (I x) a w)->∃ k,J a w k/\∀ j,J a w j->k<=j:=λa w ⟨x,q1,q2⟩=>least_nat (p:=J a w) (μ x) ⟨x,q1,q2,rfl⟩
 &wp_loop (λa w=>∃ x,p x/\Sim C (I x) a w) (λa w=>open Classical in if h:∃ x,p x/\Sim C (I x) a w then Classical.choose (ex a w h) else 0) ⟨x0,hp,h0.sim hw⟩ λa w hI=>?_
 ð⟨⟨x,q1,q2,q3⟩,q4⟩:=Classical.choose_spec (ex a w hI)
 &wp_mono (hs x q1 C h1 rfl a w q2) λe a' w' ⟨s,k1,k2⟩=>?_
 cases e with
 | normal =>
  ð⟨x',j1,j2,j3⟩:=k1
  have hs':=j3.sim k2
  have hI':∃ x,p x/\Sim C (I x) a' w':=⟨x',j1,hs'⟩
  &⟨hI',?_⟩
  rw [dif_pos hI,dif_pos hI']
  have:=(Classical.choose_spec (ex a' w' hI')).2 (μ x') ⟨x',j1,hs',rfl⟩
  omega
 | _=>~⟨s,k1,k2⟩
theorem d_cut{α:Type}{x y:Code}(I:α->DSt)(p:α->Prop)(hx:DWp P nt n0 x (Qcp (λs=>∃ b,p b/\ZM n0 s (I b)) Q) st)(hy:∀ b,p b->DWp P nt n0 y Q (I b)):DWp P nt n0 (.seq x y) Q st :=
 d_seq λK hK=>hx.mono λe s h=>by
  cases e with
  | normal=>ð⟨b,h1,h2⟩:=h;~hK _ (Qp h2 (hy b h1))
  | _=>~h
inductive ResL(P:Program)(st:DSt):List ResultVar->List DV->Prop
 | nil:ResL P st [] []
 | tmp {t:Nat} {l:List ResultVar} {ds:List DV}:ResL P st l ds->ResL P st (.tmp t :: l) (st.env.get t :: ds)
 | cell {t ty:Nat} {td:TyD} {k i j:Nat} {ob:Ob} {x:List DV} {d:DV} {l:List ResultVar} {ds:List DV}:QF P ty td->st.env.get t = .ptr k i j->st.sto.get k=some ob->ob.els[i]?=some x->ldD td (x.drop j)=some d->ResL P st l ds->ResL P st (.cell t ty :: l) (d :: ds)
def resV:List DV->DV
 | [d]=>d
 | ds=>.tup ds
def resVal(a:Act):ResultVar->Sem Value
 | .tmp t=>pure (a.tmps.getD t undef)
 | .cell x t=>do loadVar t (<- asAddr (a.tmps.getD x undef))
theorem res_run{m:Mem}{a:Act}(he:∀ k,Rep m (a.tmps.getD k undef) (st.env.get k))(hs:∀ s ob,st.sto.get s=some ob->Holds m s ob){l:List ResultVar}{ds:List DV}(h:ResL P st l ds) :
  ∃ vs:List Value,(l.mapM (resVal a)).run P m.w = .ok vs m.w/\Reps m vs ds:=by
 induction h with
 | nil=>~⟨[],Os,rfl,λi v d hv=>by simp at hv⟩
 | @tmp t l ds _ ih =>
  ð⟨vs,h1,h2,h3⟩:=ih
  &⟨a.tmps.getD t undef :: vs,?_,by simp [h2],λi v d hv hd=>?_⟩
  ·rw [Y5]
   simp only [resVal,Sem.run_bind,Sem.run_pure,Result.andThen_ok,h1]
  ·cases i with
   | zero=>simp only [WJ,Wx] at hv hd;subst hv;subst hd;~he t
   | succ i=>~h3 i v d (by simpa using hv) (by simpa using hd)
 | @cell t ty td k i j ob x d l ds ht h1 h2 h4 h5 _ ih =>
  ð⟨vs,q1,q2,q3⟩:=ih
  have hr:=he t
  rw [h1] at hr
  ð⟨e,g,cap,_,_,_,_,p1,p2⟩:=QbR hr (hs k ob h2)
  ð⟨v,l1,l2⟩:=load_ok (P:=P) ht ((p2.cellsAt h4).drop (k:=j)) h5
  &⟨v :: vs,?_,by simp [q2],λn u e hu he'=>?_⟩
  ·rw [Y5]
   have:(loadVar ty ⟨g,i*ob.esz+j,none⟩).run P m.w = .ok v m.w:=by simpa [Instr.loadAt,Instr.sureAddr] using l1
   have hv:(resVal a (.cell t ty)).run P m.w = .ok v m.w:=by simp [resVal,p1,asAddr,this]
   simp only [Sem.run_bind,Sem.run_pure,Result.andThen_ok,q1,hv]
  ·cases n with
   | zero=>simp only [WJ,Wx] at hu he';subst hu;subst he';~l2
   | succ n=>~q3 n u e (by simpa using hu) (by simpa using he')
def Xof(σ:Nat->Option (Option Ent))(k:Nat):Prop:=∃ s e,σ s=some (some e)/\e.mu=true/\e.has k
def Yof(σ:Nat->Option (Option Ent))(k:Nat):Prop:=∃ s e,σ s=some (some e)/\e.has k
def idb(S:Sto)(n:Nat):Nat:=S.foldr (λp k=>max (p.1+1) k) n
def DCall(P:Program)(f:FuncId)(ds:List DV)(S:Sto)(r:DV)(S':Sto):Prop :=
 (∀ args w,(callFunc f args).run P w = .ok (.enter f args) w) /\
 ∀ (w:World) (M:Nat->Prop) (σ:Nat->Option (Option Ent)) (vs:List Value),Inv ⟨w,Xof σ,Yof σ⟩ ⟨w,M,σ⟩->(∀ s ob,S.get s=some ob->Holds ⟨w,M,σ⟩ s ob)->(∀ s,S.length<=s->σ s=none)->Reps ⟨w,M,σ⟩ vs ds ->
  Calls P f vs.toArray w λe w'=>∃ v σ',e = .returned v/\Inv ⟨w,Xof σ,Yof σ⟩ ⟨w',M,σ'⟩/\QcT σ σ'/\Rep ⟨w',M,σ'⟩ v r/\(∀ s ob,S'.get s=some ob->Holds ⟨w',M,σ'⟩ s ob)/\∀ s,idb S' S.length<=s->σ' s=none
def envOf:Nat->List DV->Env
 | _,[]=>[]
 | k,d :: l=>(k,d) :: envOf (k+1) l
theorem envOf_get(ds:List DV)(k i:Nat):(envOf k ds).get i=if k<=i then (ds[i-k]?).getD .any else .any:=by
 induction ds generalizing k with
 | nil=>simp [envOf,Env.get_nil]
 | cons d l ih =>
  simp only [envOf,Env.get_cons,ih]
  by_cases h1:i=k
  ·subst h1;simp
  ·rw [if_neg h1]
   by_cases h2:k<=i
   ·rw [if_pos Oo,if_pos h2,show i-k=(i-(k+1))+1 by omega,V5]
   ·rw [if_neg Oo,if_neg h2]
def RetD(P:Program)(fn:Func)(n0:Nat)(r:DV)(S':Sto)(e:Exit)(st:DSt):Prop :=
 (e = .normal\/e = .ret)/\∃ ds ρ fr1 fr2,ResL P st fn.results.toList ds/\Cv st.sto ρ (resV ds) r fr1/\CvS st.sto ρ S' fr2/\okR ρ (fr1++fr2) n0 (idb S' n0)=true
theorem DCall.mk {f:FuncId} {fn:Func} {c:Code} {ds:List DV} {S:Sto} {r:DV} {S':Sto} (hf:P.funcs[f]?=some fn) (hname:(fn.name == "runtime.NumGoroutine")=false) (hb:fn.body=some c)
  (h:DWp P (ds.length+(fn.ntmps-ds.length)) S.length c (RetD P fn S.length r S') ⟨envOf 0 ds,S,S.length⟩):DCall P f ds S r S':=⟨λargs w=>by
  have hn:¬ fn.name= "runtime.NumGoroutine":=by simpa using hname
  simp [callFunc,hf,hn,hb],λw M σ vs hI hS hσ hR=>by
 have hlen:vs.length=ds.length:=hR.1
 &calls_of_wp hf hb ?_
 let C:Cx:=⟨⟨w,Xof σ,Yof σ⟩,M,ds.length+(fn.ntmps-ds.length),S.length,σ⟩
 have hsim:Sim C ⟨envOf 0 ds,S,S.length⟩ { tmps:=vs.toArray++Array.replicate (fn.ntmps-vs.toArray.size) undef,defers:=[] } w:=by
  &⟨⟨w,M,σ⟩,rfl,⟨hI,rfl,by simp [C,hlen],rfl,λs x h=>⟨x,h,λe' h=>⟨e',h,rfl,rfl⟩⟩,hσ,λk=>?_,hS⟩,hσ⟩
  dsimp only
  rw [envOf_get,if_pos (WT _),Uw]
  by_cases hk:k<ds.length
  ·rw [Wa hk,WE,Vr,VS (by simp;omega)]
   have hk':k<vs.length:=by omega
   have:=hR.2 k vs[k] ds[k] (Wa hk') (Wa hk)
   simpa [hk'] using this
  ·rw [Wg Oo];~.any _
 &wp_mono (h C rfl rfl _ w hsim) λe a w' ⟨st,⟨he,ds',ρ,fr1,fr2,q1,q2,q3,q4⟩,hs⟩=>?_
 ð⟨m,rfl,hm,hF⟩:=hs
 ð⟨m',k1,k2,k3,k4,k5,k6,k7⟩:=weak_mem hm.inv hm.sto q4 q3 (λs hs=>Wj _ hs) hm.org hm.lim0
 ð⟨us,u1,u2,u3⟩:=res_run (P:=P) hm.env hm.sto q1
 have hres:(results fn a.tmps).run P m.w = .ok (if h:us.toArray.size=1 then us.toArray[0] else .tuple us.toArray) m.w:=by
  have hfun:results fn a.tmps=(do let vs <- fn.results.mapM (resVal a);pure (if h:vs.size=1 then vs[0] else .tuple vs)):=by
   unfold results
   congr 1
  rw [hfun,Array.mapM_eq_mapM_toList]
  simp only [Sem.run_bind,Sem.run_map,u1,Result.andThen_ok,Sem.run_pure]
 have hrep:Rep m (if h:us.toArray.size=1 then us.toArray[0] else .tuple us.toArray) (resV ds'):=by
  by_cases h1:us.toArray.size=1
  ·rw [dif_pos h1]
   match us,ds',u2,u3,h1 with
   | [u],[d],_,u3,_=>~u3 0 u d rfl rfl
  ·rw [dif_neg h1]
   have:resV ds' = .tup ds':=by
    match ds',us,u2,h1 with
    | [],_,_,_=>rfl
    | [d],[u],_,h1=>~absurd rfl h1
    | _ :: _ :: _,_,_,_=>rfl
   rw [this]
   ~.tup u2 u3
 have hfin:∃ v,(results fn a.tmps).run P m.w = .ok v m.w/\∃ v' σ',Ending.returned v = .returned v'/\Inv ⟨w,Xof σ,Yof σ⟩ ⟨m.w,M,σ'⟩/\QcT σ σ'/\Rep ⟨m.w,M,σ'⟩ v' r/\(∀ s ob,S'.get s=some ob->Holds ⟨m.w,M,σ'⟩ s ob)/\∀ s,idb S' S.length<=s->σ' s=none:=by
  have hMe:m'.M=M:=k2.trans hm.M
  have hm':m'=⟨m.w,M,m'.σ⟩:=by
   rw [<- k1,<- hMe]
  have:=k4 _ _ fr1 _ q2 (λs hs=>Wf _ hs) hrep
  rw [hm'] at k3 this k5
  ~⟨_,hres,_,m'.σ,rfl,k3,k6,this,k5,k7⟩
 ð⟨v,v1,v2⟩:=hfin
 rcases he with rfl | rfl
 ·~⟨hm.defers,v,v1,v2⟩
 ·~⟨hm.defers,v,v1,v2⟩⟩
end
mutual
def ren (φ:Nat->Nat):DV->DV
 | .own s off len=>.own (φ s) off len
 | .ptr s i j=>.ptr (φ s) i j
 | .agg xs=>.agg (renL φ xs)
 | .tup xs=>.tup (renL φ xs)
 | .fn f xs=>.fn f (renL φ xs)
 | .any=>.any
 | .lit v=>.lit v
 | .sl xs=>.sl xs
 | .pp xs=>.pp xs
 | .dp z xs=>.dp z xs
def renL (φ:Nat->Nat):List DV->List DV
 | []=>[]
 | d :: l=>ren φ d :: renL φ l
end
theorem Qbb(φ:Nat->Nat):∀ l,renL φ l=l.map (ren φ)
 | []=>by unfold renL;rfl
 | d :: l=>by unfold renL;rw [Qbb φ l];rfl
def renO(φ:Nat->Nat)(ob:Ob):Ob:=if ob.arr then ob else { ob with els:=ob.els.map (renL φ) }
inductive Sc:DV->Prop
 | any:Sc .any
 | lit {v:Value}:Sc (.lit v)
 | own {s off len:Nat}:Sc (.own s off len)
 | ptr {s i j:Nat}:Sc (.ptr s i j)
 | agg {xs:List DV}:(∀ d∈xs,Sc d)->Sc (.agg xs)
 | tup {xs:List DV}:(∀ d∈xs,Sc d)->Sc (.tup xs)
 | fn {f:FuncId} {xs:List DV}:(∀ d∈xs,Sc d)->Sc (.fn f xs)
def ScS(S:Sto):Prop:=∀ s ob,S.get s=some ob->∀ y∈ob.els,∀ d∈y,Sc d
theorem ren_rep{m1 m2:Mem}{φ:Nat->Nat}(hσ:∀ s x,m1.σ s=some x->m2.σ (φ s)=some x\/m2.σ (φ s)=some none){v:Value}{d:DV}(h:Rep m1 v d)
  (ht:Sc d\/(m1.w=m2.w/\∀ k,m2.no k->m1.no k)):Rep m2 v (ren φ d):=by
 have hp:(m1.w=m2.w/\∀ k,m2.no k->m1.no k)->∀ {v d},PRep m1.w m1.no v d->PRep m2.w m2.no v d:=λ⟨hw,hn⟩ {v d} h=>PRep.ext (by rw [hw];~Wl _) (λk _ hk=>⟨by rw [hw],λh=>hk (hn k h)⟩) h
 induction h with
 | any v=>unfold ren;~.any v
 | dp v=>unfold ren;~.dp v
 | @pure v d p =>
  cases p with
  | lit v h=>unfold ren;~.pure (.lit v h)
  | nil a c h =>
   unfold ren
   ~.pure (.nil a c h)
  | sl b off cap sz xs f h1 h2 h3 h4 h5 h6 h7 h8 h9 =>
   unfold ren
   rcases ht with h | h
   ·cases h
   ·~.pure (hp h (.sl b off cap sz xs f h1 h2 h3 h4 h5 h6 h7 h8 h9))
 | own h1 h2 h3 h4 =>
  unfold ren
  rcases hσ _ _ h1 with h | h
  ·~.own h h2 h3 h4
  ·~.ownOld h
 | ownNil h1 h2 =>
  unfold ren
  rcases hσ _ _ h1 with h | h
  ·~.ownNil h h2
  ·~.ownOld h
 | ownOld h1 =>
  unfold ren
  rcases hσ _ _ h1 with h | h <;> ~.ownOld h
 | ptr h1 h2 =>
  unfold ren
  rcases hσ _ _ h1 with h | h
  ·~.ptr h h2
  ·~.ptrOld h
 | ptrOld h1 =>
  unfold ren
  rcases hσ _ _ h1 with h | h <;> ~.ptrOld h
 | pp f h1 h2 h3 h4 =>
  unfold ren
  rcases ht with h | h
  ·cases h
  ·ð⟨hw,hn⟩:=h
   ~.pp f (λh=>h1 (hn _ h)) (by rw [<- hw];~h2) (λj d hd=>by rw [<- hw];~h3 j d hd) (λj d hd=>hp ⟨hw,hn⟩ (h4 j d hd))
 | @agg vs xs h1 h2 ih =>
  unfold ren
  rw [Qbb]
  &.agg (by simpa using h1) λi v d hv hd=>?_
  rw [Wh] at hd
  cases hx:xs[i]? with
  | none=>rw [hx] at hd;cases hd
  | some x =>
   rw [hx] at hd
   injection hd with hd
   subst hd
   &ih i v x hv hx (ht.imp (λh=>?_) id)
   cases h with | agg h=>~h x (Wp hx)
 | @tup vs xs h1 h2 ih =>
  unfold ren
  rw [Qbb]
  &.tup (by simpa using h1) λi v d hv hd=>?_
  rw [Wh] at hd
  cases hx:xs[i]? with
  | none=>rw [hx] at hd;cases hd
  | some x =>
   rw [hx] at hd
   injection hd with hd
   subst hd
   &ih i v x hv hx (ht.imp (λh=>?_) id)
   cases h with | tup h=>~h x (Wp hx)
 | @fn f vs xs h1 h2 ih =>
  unfold ren
  rw [Qbb]
  &.fn (by simpa using h1) λi v d hv hd=>?_
  rw [Wh] at hd
  cases hx:xs[i]? with
  | none=>rw [hx] at hd;cases hd
  | some x =>
   rw [hx] at hd
   injection hd with hd
   subst hd
   &ih i v x hv hx (ht.imp (λh=>?_) id)
   cases h with | fn h=>~h x (Wp hx)
theorem ren_dp{φ:Nat->Nat}{d:DV}{z:Nat}{l:List (List DV)}(h:ren φ d = .dp z l):d = .dp z l:=by
 cases d <;> unfold ren at h <;> first | (cases h;done) | ~h
theorem ren_holds{m1 m2:Mem}{φ:Nat->Nat}(hσ:∀ s x,m1.σ s=some x->m2.σ (φ s)=some x\/m2.σ (φ s)=some none){s:Nat}{ob:Ob}(h:Holds m1 s ob)(hs:m2.σ (φ s)=m1.σ s)(hw:m1.w=m2.w)
  (ht:(∀ y∈ob.els,∀ d∈y,Sc d)\/∀ k,m2.no k->m1.no k):Holds m2 (φ s) (renO φ ob):=by
 ð⟨e,h1,h2,h3,h4⟩:=h
 have e1:(renO φ ob).esz=ob.esz:=by unfold renO;split <;> rfl
 have e2:(renO φ ob).frz=ob.frz:=by unfold renO;split <;> rfl
 &⟨e,hs.trans h1,by rw [e1];~h2,by rw [e2];~h3,?_⟩
 cases hb:e.blk with
 | none =>
  rw [hb] at h4
  ð⟨q1,q2⟩:=h4
  ~⟨by unfold renO;split <;> simp [q1],by rw [e1];~q2⟩
 | some p =>
  ð⟨g,cap⟩:=p
  rw [hb] at h4
  ð⟨h4,h5⟩:=h4
  ð⟨cur,T,c1,c2,c3⟩:=h4.cells
  unfold renO
  by_cases ha:ob.arr=true
  ·rw [if_pos ha]
   suffices row:Row m2 ob g cap from ⟨row,row.deep ha _⟩
   &⟨⟨cur,T,by rw [<- hw];~c1,c2,λi x j d hx hd=>?_⟩,h4.len,h4.max,h4.pos,h4.sz⟩
   ð⟨u,hu,hr1,hr2⟩:=c3 i x j d hx hd
   &⟨u,hu,hr1,?_⟩
   rw [ha] at hr2 ⊢
   rcases ht with h | h
   ·have hsc:=h x (Wp hx) d (Wp hd)
    change PRep _ _ _ _ at hr2
    show PRep _ _ _ _
    cases hsc <;> first | (cases hr2;done) | (cases hr2 with | lit _ h=>~.lit _ h)
   ·~PRep.ext (by rw [hw];~Wl _) (λk _ hk=>⟨by rw [hw],λh'=>hk (h k h')⟩) hr2
  ·rw [if_neg ha]
   have inside:∀ (i:Nat) y (j:Nat) z l,(ob.els.map (renL φ))[i]?=some y->y[j]?=some (.dp z l)->∃ x,ob.els[i]?=some x/\x[j]?=some (.dp z l):=λi y j z l hy hd=>by
    rw [Wh] at hy
    cases hx:ob.els[i]? with
    | none=>rw [hx] at hy;cases hy
    | some x =>
     rw [hx] at hy
     injection hy with hy
     subst hy
     rw [Qbb,Wh] at hd
     cases hq:x[j]? with
     | none=>rw [hq] at hd;cases hd
     | some d =>
      rw [hq] at hd
      injection hd with hd
      ~⟨x,rfl,by rw [hq,ren_dp hd]⟩
   have deep:Deep m2 e.inn { ob with els:=ob.els.map (renL φ) } g:=by
    rcases ht with h | h
    ·&Deep.flat λi y j z l hy hd=>?_
     ð⟨x,k1,k2⟩:=inside i y j z l hy hd
     have:=h x (Wp k1) _ (Wp k2)
     cases this
    ·ð⟨B,d1,d2⟩:=h5
     &⟨B,λi y j z l hy hd=>?_,d2⟩
     ð⟨x,k1,k2⟩:=inside i y j z l hy hd
     ð⟨u,q1,q2⟩:=d1 i x j z l k1 k2
     &⟨u,by rw [<- hw];~q1,?_⟩
     cases hB:B i j with
     | none=>rw [hB] at q2;~q2
     | some b =>
      rw [hB] at q2
      ð⟨p1,cp,p2,p3⟩:=q2
      ð⟨cur,T,c1,c2,c3⟩:=p3.cells
      &⟨p1,cp,p2,⟨⟨cur,T,by rw [<- hw];~c1,c2,λi x j d hx hd=>?_⟩,p3.len,p3.max,p3.pos,p3.sz⟩⟩
      ð⟨u,hu,hr1,hr2⟩:=c3 i x j d hx hd
      ~⟨u,hu,hr1,PRep.ext (by rw [hw];~Wl _) (λk _ hk=>⟨by rw [hw],λh'=>hk (h k h')⟩) hr2⟩
   suffices row:Row m2 { ob with els:=ob.els.map (renL φ) } g cap from ⟨row,deep⟩
   &⟨⟨cur,T,by rw [<- hw];~c1,c2,λi x j d hx hd=>?_⟩,by simpa using h4.len,h4.max,h4.pos,λi x hx=>?_⟩
   ·dsimp only at hx
    rw [Wh] at hx
    cases hy:ob.els[i]? with
    | none=>rw [hy] at hx;cases hx
    | some y =>
     rw [hy] at hx
     injection hx with hx
     subst hx
     rw [Qbb,Wh] at hd
     cases hz:y[j]? with
     | none=>rw [hz] at hd;cases hd
     | some z =>
      rw [hz] at hd
      injection hd with hd
      subst hd
      ð⟨u,hu,hr1,hr2⟩:=c3 i y j z hy hz
      &⟨u,hu,hr1,?_⟩
      simp only [ha] at hr2 ⊢
      ~ren_rep hσ hr2 (ht.imp (λh=>h y (Wp hy) z (Wp hz)) λh=>⟨hw,h⟩)
   ·dsimp only at hx
    rw [Wh] at hx
    cases hy:ob.els[i]? with
    | none=>rw [hy] at hx;cases hx
    | some y =>
     rw [hy] at hx
     injection hx with hx
     subst hx
     rw [Qbb,Wb]
     ~h4.sz i y hy
def Ren.inv:Ren->Nat->Option Nat
 | [],_=>none
 | (k,s) :: l,j=>cond (Nat.beq j s) (some k) (Ren.inv l j)
theorem Ren.inv_some{ρ:Ren}{s s':Nat}(h:ρ.inv s=some s'):(s',s)∈ρ:=by
 induction ρ with
 | nil=>cases h
 | cons p l ih =>
  ð⟨k,x⟩:=p
  simp only [Ren.inv,Jh] at h
  split at h
  ·rename_i hk
   injection h with h
   subst hk
   subst h
   simp
  ·~Wm _ (ih h)
theorem Ren.inv_in{ρ:Ren}{s s':Nat}(h:(s',s)∈ρ):∃ t,ρ.inv s=some t:=by
 induction ρ with
 | nil=>cases h
 | cons p l ih =>
  ð⟨k,x⟩:=p
  simp only [Ren.inv,Jh]
  by_cases hk:s=x
  ·~⟨k,by rw [if_pos hk]⟩
  ·rw [if_neg hk]
   rcases Wt.1 h with h | h
   ·injection h with _ h;~absurd h hk
   ·~ih h
def phi(ρ:Ren)(n0 nxt:Nat)(s':Nat):Nat:=match ρ.get s' with | some s=>s | none=>nxt+(s' - n0)
def okC(ρ:Ren)(fr:List Nat)(n0:Nat):Bool :=
 QeK (ρ.map (·.2)) && QeK (ρ.map (·.1)) && (ρ.all λp=>decide (p.1<n0) && !fr.contains p.2) && ((List.range n0).all λi=>(ρ.get i).isSome)
def QaK(ρ:Ren)(n0 nxt:Nat)(S':Sto):List (Nat×Option Ob) :=
 (ρ.map λp=>(p.2,(S'.get p.1).map (renO (phi ρ n0 nxt))))++(List.range (idb S' n0-n0)).map λi=>(nxt+i,(S'.get (n0+i)).map (renO (phi ρ n0 nxt)))
theorem Qep:∀ {ρ:Ren},QeK (ρ.map (·.1))=true->∀ {a s:Nat},(a,s)∈ρ->ρ.get a=some s
 | [],_,_,_,h=>by cases h
 | (k,x) :: l,hn,a,s,h=>by
  simp only [Vg,QeK,W9,Vy] at hn
  simp only [Ren.get,Jh]
  rcases Wt.1 h with h1 | h1
  ·injection h1 with h1 h2;subst h1;subst h2;rw [if_pos rfl]
  ·rw [if_neg λhk=>?_]
   ·~Qep hn.2 h1
   ·subst hk
    have:(l.map (·.1)).contains a=true:=Uc.2 (Wk.2 ⟨_,h1,rfl⟩)
    rw [hn.1] at this;cases this
section
variable{P:Program}{F:Fm}{sto:Sto}
theorem CvL.reps{m m':Mem}{ρ:Ren}{fr:List Nat}(rep:∀ d d' r v,Cv sto ρ d d' r->(∀ s∈r,s∈fr)->Rep m v d->Rep m' v d'){xs ys:List DV}{r:List Nat}(h:CvL sto ρ xs ys r)(hr:∀ s∈r,s∈fr){vs:List Value}(hv:Reps m vs xs):Reps m' vs ys:=by
 have key:∀ {xs ys:List DV} {r:List Nat},CvL sto ρ xs ys r->(∀ s∈r,s∈fr)->xs.length=ys.length/\∀ (i:Nat) x y,xs[i]?=some x->ys[i]?=some y->∀ v,Rep m v x->Rep m' v y:=by
  intro xs
  induction xs with
  | nil=>intro ys r h _;cases h;~⟨rfl,λi x y hx=>by simp at hx⟩
  | cons x xs ihx =>
   intro ys r h hr
   cases h with
   | @cons _ y _ ys r1 r2 hc hl =>
    ð⟨z1,z2⟩:=ihx hl λs h=>hr s (Wj _ h)
    &⟨by simp [z1],λi x' y' hx hy v hv=>?_⟩
    cases i with
    | zero =>
     simp only [WJ,Wx] at hx hy
     subst hx
     subst hy
     ~rep _ _ _ v hc (λs h=>hr s (Wf _ h)) hv
    | succ i=>~z2 i x' y' (by simpa using hx) (by simpa using hy) v hv
 ð⟨z1,z2⟩:=key h hr
 &⟨by rw [hv.1,z1],λi v d hv' hd=>?_⟩
 have hlt:i<xs.length:=by
  rcases Ws i ys.length with h' | h'
  ·omega
  ·rw [Wg h'] at hd;cases hd
 ~z2 i _ d (Wa hlt) hd v (hv.2 i v _ hv' (Wa hlt))
theorem CvS.holds{m m':Mem}{ρ:Ren}{fr:List Nat}(hw:m'.w=m.w)(hp:∀ {v d},PRep m.w m.no v d->PRep m'.w m'.no v d)(rep:∀ d d' r v,Cv sto ρ d d' r->(∀ s∈r,s∈fr)->Rep m v d->Rep m' v d')(at':∀ {s' s},ρ.get s'=some s->m'.σ s'=m.σ s)
  {S:Sto}{fr':List Nat}(hS:CvS sto ρ S fr')(hsub:∀ s∈fr',s∈fr)(hs:∀ s' s ob,ρ.get s'=some s->sto.get s=some ob->Holds m s ob):∀ s ob,S.get s=some ob->Holds m' s ob:=by
 induction hS with
 | nil=>intro s ob h;cases h
 | @cons s' s ob ob' l r r' h1 h2 h3 _ ih =>
  intro t ob1 ht
  rw [Sto.get_cons] at ht
  split at ht
  ·rename_i hts
   injection ht with ht
   subst hts
   subst ht
   ð⟨e,q1,q2,q3,q4⟩:=hs _ s ob h1 h2
   have rows:∀ {ob b cap},ob.arr=true->Row m ob b cap->Row m' ob b cap:=λ{ob b cap} ha q4=>by
    ð⟨cur,T,c1,c2,c3⟩:=q4.cells
    &⟨⟨cur,T,by rw [hw];~c1,c2,λi x j d hx hd=>?_⟩,q4.len,q4.max,q4.pos,q4.sz⟩
    ð⟨u,hu,hr1,hr2⟩:=c3 i x j d hx hd
    rw [ha] at hr2
    ~⟨u,hu,hr1,by rw [ha];~hp hr2⟩
   cases h3 with
   | arr ha =>
    &⟨e,by rw [at' h1];~q1,q2,q3,?_⟩
    cases hb:e.blk with
    | none=>rw [hb] at q4;~q4
    | some p =>
     ð⟨g,cap⟩:=p
     rw [hb] at q4
     have:=rows ha q4.1
     ~⟨this,this.deep ha _⟩
   | @rows z fz xs ys frr hlen hcv _ =>
    &⟨e,by rw [at' h1];~q1,q2,q3,?_⟩
    have at_:∀ {i:Nat} {y},ys[i]?=some y->∃ x,xs[i]?=some x:=λ{i y} hy=>by
     rcases Ws i xs.length with h' | h'
     ·~⟨_,Wa h'⟩
     ·rw [Wg Oo] at hy;cases hy
    cases hb:e.blk with
    | none =>
     rw [hb] at q4
     ð⟨q4,q5⟩:=q4
     &⟨?_,q5⟩
     have:xs=[]:=q4
     subst this
     ~Vp.1 hlen.symm
    | some p =>
     ð⟨g,cap⟩:=p
     rw [hb] at q4
     ð⟨q4,q5⟩:=q4
     ð⟨cur,T,c1,c2,c3⟩:=q4.cells
     have cell:∀ (i:Nat) x y,xs[i]?=some x->ys[i]?=some y->x.length=y.length/\∀ j d,y[j]?=some d->∃ u,cur[i*z+j]?=some u/\u.oneCell'=true/\Rep m' u d:=λi x y hx hy=>by
      ð⟨r,k1,k2⟩:=hcv i x y hx hy
      have hcs:∀ j (hj:j<x.length),∃ u,cur[i*z+j]?=some u/\u.oneCell'=true/\Rep m u x[j]:=λj hj=>by
       ð⟨u,hu,hr1,hr2⟩:=c3 i x j x[j] hx (Wa hj)
       ~⟨u,hu,hr1,hr2⟩
      let us:=(List.range x.length).map λj=>if hj:j<x.length then Classical.choose (hcs j hj) else undef
      have hus:Reps m us x:=⟨by simp [us],λi v d hv hd=>by
       have hlt:i<x.length:=by
        rcases Ws i x.length with h' | h'
        ·~h'
        ·rw [Wg h'] at hd;cases hd
       rw [Wa hlt] at hd
       injection hd with hd
       subst hd
       simp only [us,Wh,VB hlt,Wu,Wx] at hv
       rw [dif_pos hlt] at hv
       subst hv
       ~(Classical.choose_spec (hcs i hlt)).2.2⟩
      ð⟨z1,z2⟩:=CvL.reps rep k1 (λs h=>hsub s (Wf _ (k2 s h))) hus
      have z1':x.length=y.length:=by simpa [us] using z1
      &⟨z1',λj d hd=>?_⟩
      have hlt:j<x.length:=by
       rcases Ws j y.length with h' | h'
       ·omega
       ·rw [Wg h'] at hd;cases hd
      ð⟨k3,k4,_⟩:=Classical.choose_spec (hcs j hlt)
      &⟨_,k3,k4,z2 j _ d ?_ hd⟩
      simp only [us,Wh,VB hlt,Wu]
      rw [dif_pos hlt]
     &⟨⟨⟨cur,T,by rw [hw];~c1,c2,λi y j d hy hd=>?_⟩,by have:=q4.len;dsimp only at this ⊢;omega,q4.max,q4.pos,λi y hy=>?_⟩,q5.conv hw rows λi y j z l hy hd=>?_⟩
     ·dsimp only at hy ⊢
      ð⟨x,hx⟩:=at_ hy
      ~(cell i x y hx hy).2 j d hd
     ·dsimp only at hy ⊢
      ð⟨x,hx⟩:=at_ hy
      have h1:=(cell i x y hx hy).1
      have:=q4.sz i x hx
      dsimp only at this
      omega
     ·ð⟨x,hx⟩:=at_ hy
      ð⟨r,k1,k2⟩:=hcv i x y hx hy
      ~⟨x,hx,k1.to_dp j z l hd⟩
  ·~ih (λs h=>hsub s (Wj _ h)) t ob1 ht
theorem call_core{m:Mem}(hI:Inv F m){f:FuncId}{ds:List DV}{S:Sto}{r:DV}{S':Sto}(hc:DCall P f ds S r S'){ρ:Ren}{fr fr1 fr2:List Nat}{nxt:Nat}(hok:okC ρ fr S.length=true)
  (hr1:∀ s∈fr1,s∈fr)(hr2:∀ s∈fr2,s∈fr)(hHf:HoldsF m sto fr)(hHr:∀ s' s ob,ρ.get s'=some s->sto.get s=some ob->Holds m s ob)(hS:CvS sto ρ S fr2)
  {args:List DV}{vs:List Value}(hA:CvL sto ρ args ds fr1)(hR:Reps m vs args)(hF:Fresh m nxt (idb S' S.length-S.length))(hlive:∀ s' s,ρ.get s'=some s->∃ e,m.σ s=some (some e))
  (Bk:Nat->Prop)(hBk:∀ s∈fr,∀ e g,m.σ s=some (some e)->e.has g->¬ m.no g\/Bk g)(hsc:(Sc r/\ScS S')\/∀ k,¬ Bk k) :
  Calls P f vs.toArray m.w λe w'=>∃ v,e = .returned v/\∃ m':Mem,m'.w=w'/\Inv F m'/\Loc ((QaK ρ S.length nxt S').map (·.1)) m m'/\Rep m' v (ren (phi ρ S.length nxt) r)/\∀ p∈QaK ρ S.length nxt S',Upd m' p:=by
 simp only [okC,W9,WY,decide_eq_true_eq,Vy] at hok
 ð⟨⟨⟨o1,o2⟩,o3⟩,o4⟩:=hok
 have key:∀ {s' s},ρ.get s'=some s->s' < S.length/\s∉fr:=λ{s' s} h=>by
  ð⟨q1,q3⟩:=o3 _ (Ren.get_mem h)
  ~⟨q1,λhin=>by rw [Uc.2 hin] at q3;cases q3⟩
 let σ0:Nat->Option (Option Ent):=λs'=>match ρ.get s' with | some s=>m.σ s | none=>none
 have ent0:∀ {s' e},σ0 s'=some (some e)->∃ s,ρ.get s'=some s/\m.σ s=some (some e):=λ{s' e} h=>by
  simp only [σ0] at h
  split at h
  ·rename_i s hr;~⟨s,hr,h⟩
  ·cases h
 have at0:∀ {s' s},ρ.get s'=some s->σ0 s'=m.σ s:=λ{s' s} hr=>by simp only [σ0,hr]
 let M0:Nat->Prop:=λk=>m.no k/\¬ Xof σ0 k/\¬ Bk k
 let m0:Mem:=⟨m.w,M0,σ0⟩
 have X0:∀ {k},Xof σ0 k->∃ s' s e,ρ.get s'=some s/\m.σ s=some (some e)/\e.mu=true/\e.has k:=λ{k} ⟨s',e,h1,h2,h3⟩=>by
  ð⟨s,k1,k2⟩:=ent0 h1
  ~⟨s',s,e,k1,k2,h2,h3⟩
 have Y0:∀ {k},Yof σ0 k->∃ s' s e,ρ.get s'=some s/\m.σ s=some (some e)/\e.has k:=λ{k} ⟨s',e,h1,h3⟩=>by
  ð⟨s,k1,k2⟩:=ent0 h1
  ~⟨s',s,e,k1,k2,h3⟩
 have nolt:∀ {k},m.no k->k<m.w.heap.size:=λ{k} h=>by
  rcases h with h | ⟨s,e,h1,_,h3⟩
  ·~Vm (hI.lt k h).1 hI.size
  ·~(hI.at_ s e k h1 h3).1
 have hI0:Inv ⟨m.w,Xof σ0,Yof σ0⟩ m0:=by
  &⟨rfl,rfl,rfl,Wl _,λ_ _ _=>rfl,?_,?_,λk h=>⟨nolt h.1,h.2.1⟩,λs e g c h1 h2=>(by ð⟨t,_,j2⟩:=ent0 h1;~hI.wf t e g c j2 h2),λk l he=>?_⟩
  ·intro s1 s2 e e' g h1 h2 h3 h4
   ð⟨t1,j1,j2⟩:=ent0 h1
   ð⟨t2,k1,k2⟩:=ent0 h2
   have:=hI.inj t1 t2 e e' g j2 k2 h3 h4
   subst this
   ~QcY o1 (Ren.get_mem j1) (Ren.get_mem k1)
  ·intro s e g h1 h2
   ð⟨t,j1,j2⟩:=ent0 h1
   &⟨(hI.at_ t e g j2 h2).1,λ⟨q1,q2,_⟩=>?_,λhm=>.inr ⟨s,e,h1,hm,h2⟩,.inr ⟨s,e,h1,h2⟩⟩
   rcases q1 with q | ⟨t',e',p1,p2,p3⟩
   ·~(hI.at_ t e g j2 h2).2.1 q
   ·have:=hI.inj t t' e e' g j2 p1 h2 p3
    subst this
    rw [j2] at p1
    injection p1 with p1
    injection p1 with p1
    subst p1
    ~q2 ⟨s,e,h1,p2,h2⟩
  ·ð⟨t1,t2,t3,t4,t5⟩:=hI.tab k l he
   have nh:∀ {s e},m.σ s=some (some e)->¬ e.has k:=λ{s e} q1 q2=>by
    rcases (hI.at_ s e k q1 q2).2.2.2 with q | q
    ·omega
    ·~t3 q
   &⟨Vm t1 hI.size,λq=>?_,λq=>?_,λq=>?_,λi x hx=>?_⟩
   ·ð⟨_,s,e,_,q1,_,q2⟩:=X0 q;~nh q1 q2
   ·ð⟨_,s,e,_,q1,q2⟩:=Y0 q;~nh q1 q2
   ·rcases q.1 with q | ⟨s,e,q1,_,q2⟩
    ·~t4 q
    ·~nh q1 q2
   ·show m.w.cell? ⟨k,i,none⟩=_
    rw [Qbf (hI.old k t1 t2)]
    ~t5 i x hx
 have hno:∀ k,m0.no k->m.no k:=λk h=>by
  rcases h with h | ⟨s',e,h1,h2,h3⟩
  ·~h.1
  ·ð⟨s,_,k2⟩:=ent0 h1
   ~.inr ⟨s,e,k2,h2,h3⟩
 have hσ0:EntIs m.σ m0.σ ρ:=λs' s hr=>by
  show _/\_
  rw [show m0.σ s'=m.σ s from at0 hr]
  ~⟨id,λe he=>.inr ⟨e,he,rfl,rfl⟩⟩
 have hfr:∀ s∈fr,∀ e g,m.σ s=some (some e)->e.has g->¬ m0.no g:=λs hs' e g h1 h2 h=>by
  rcases h with ⟨q1,_,q3⟩ | ⟨t',e',k1,k2,k3⟩
  ·rcases hBk s hs' e g h1 h2 with h | h
   ·~h q1
   ·~q3 h
  ·ð⟨t,j1,j2⟩:=ent0 k1
   have:=hI.inj s t e e' g h1 j2 h2 k3
   subst this
   ~(key j1).2 hs'
 have rep0:∀ d d' r v,Cv sto ρ d d' r->(∀ s∈r,s∈fr)->Rep m v d->Rep m0 v d':=λd d' r v hc hr hv =>
  hc.rep (m:=m) (m':=m0) rfl hno hσ0 hI (λs hs' ob hob=>hHf s (hr s hs') ob hob) (λs hs'=>hfr s (hr s hs')) hv
 have hp0:∀ {v d},PRep m.w m.no v d->PRep m0.w m0.no v d:=λh=>PRep.ext (Wl _) (λk _ hk=>⟨rfl,λh=>hk (hno k h)⟩) h
 have hS0:=CvS.holds (m:=m) (m':=m0) rfl hp0 rep0 at0 hS hr2 hHr
 have hR0:=CvL.reps rep0 hA hr1 hR
 have hlim0:∀ s,S.length<=s->σ0 s=none:=λs hs=>by
  cases hr:ρ.get s with
  | none=>simp only [σ0,hr]
  | some t=>have:=(key hr).1;omega
 &(hc.2 m.w M0 σ0 vs hI0 hS0 hlim0 hR0).mono λe w' ⟨v,σ1,he,hI1,hE1,hrep1,hS1,hlim1⟩=>⟨v,he,?_⟩
 let n:=idb S' S.length-S.length
 let σ2:Nat->Option (Option Ent):=λs=>if nxt<=s/\s<nxt+n then (if (S'.get (S.length+(s-nxt))).isSome then σ1 (S.length+(s-nxt)) else some none) else
  match ρ.inv s with
  | some s'=>if (S'.get s').isSome then σ1 s' else some none
  | none=>m.σ s
 let m1:Mem:=⟨w',M0,σ1⟩
 let m2:Mem:=⟨w',m.M,σ2⟩
 have invget:∀ {s s'},ρ.inv s=some s'<->ρ.get s'=some s:=λ{s s'}=>by
  constructor
  ·intro h;~Qep o2 (Ren.inv_some h)
  ·intro h
   ð⟨t,ht⟩:=Ren.inv_in (Ren.get_mem h)
   rw [ht,QcY o1 (Ren.inv_some ht) (Ren.get_mem h)]
 have notnew:∀ {s' s},ρ.get s'=some s->¬ (nxt<=s/\s<nxt+n):=λ{s' s} h hn=>by
  ð⟨e,he⟩:=hlive s' s h
  rw [hF s hn.1 hn.2] at he;cases he
 have ent2:∀ {s e},σ2 s=some (some e)->(∃ s',σ1 s'=some (some e)/\(S'.get s').isSome=true/\(ρ.get s'=some s\/(S.length<=s'/\s=nxt+(s' - S.length)/\nxt<=s/\s<nxt+n)))\/(m.σ s=some (some e)/\ρ.inv s=none/\¬ (nxt<=s/\s<nxt+n)):=λ{s e} h=>by
  simp only [σ2] at h
  split at h
  ·rename_i hn
   split at h
   ·rename_i hx
    ~.inl ⟨_,h,hx,.inr ⟨Oo,Oo,hn⟩⟩
   ·cases h
  ·rename_i hn
   split at h
   ·rename_i s' hr
    split at h
    ·rename_i hx
     ~.inl ⟨s',h,hx,.inl (invget.1 hr)⟩
    ·cases h
   ·rename_i hr
    ~.inr ⟨h,hr,hn⟩
 have cal:∀ {s' e g},σ1 s'=some (some e)->e.has g->g<w'.heap.size/\(m.w.heap.size<=g\/Yof σ0 g)/\(e.mu=true->m.w.heap.size<=g\/Xof σ0 g):=λ{s' e g} h1 h2=>by
  ð⟨q1,_,q3,q4⟩:=hI1.at_ s' e g h1 h2
  ~⟨q1,q4,q3⟩
 have hsz:m.w.heap.size<=w'.heap.size:=hI1.size
 have notX:∀ {k},k<F.w0.heap.size->¬ F.X k->¬ Xof σ0 k:=λ{k} hk hX h=>by
  ð⟨s',s,e,q1,q2,q3,q4⟩:=X0 h
  rcases (hI.at_ s e k q2 q4).2.2.1 q3 with h | h
  ·omega
  ·~hX h
 have mixed:∀ {s' e g s t},σ1 s'=some (some e)->e.has g->m.σ s=some (some t)->ρ.inv s=none->t.has g->False:=λ{s' e g s t} h1 h2 h3 h4 h5=>by
  rcases (cal h1 h2).2.1 with h | h
  ·have:=(hI.at_ s t g h3 h5).1;omega
  ·ð⟨t',t2,e0,q1,q2,q3⟩:=Y0 h
   have:=hI.inj s t2 t e0 g h3 q2 h5 q3
   subst this
   rw [invget.2 q1] at h4;cases h4
 have hI2:Inv F m2:=by
  &⟨hI1.os.trans hI.os,hI1.tape.trans hI.tape,hI1.output.trans hI.output,Ug hI.size hsz,λk hk hX=>?_,?_,?_,hI.lt,λs e g c h1 h2=>by
   rcases ent2 h1 with ⟨t,j1,_⟩ | ⟨j1,_⟩
   ·~hI1.wf t e g c j1 h2
   ·~hI.wf s e g c j1 h2,hI.tab⟩
  ·rw [<- hI.old k hk hX]
   ~hI1.old k (Vm hk hI.size) (notX hk hX)
  ·intro s1 s2 e e' g h1 h2 h3 h4
   rcases ent2 h1 with ⟨t1,j1,jx,j2⟩ | ⟨j1,j2,j3⟩ <;> rcases ent2 h2 with ⟨t2,k1,kx,k2⟩ | ⟨k1,k2,k3⟩
   ·have:=hI1.inj t1 t2 e e' g j1 k1 h3 h4
    subst this
    rcases j2 with j2 | ⟨j2,j3,j4,j5⟩ <;> rcases k2 with k2 | ⟨k2,k3,k4,k5⟩
    ·rw [j2] at k2;injection k2
    ·have:=(key j2).1;omega
    ·have:=(key k2).1;omega
    ·omega
   ·~(mixed j1 h3 k1 k2 h4).elim
   ·~(mixed k1 h4 j1 j2 h3).elim
   ·~hI.inj s1 s2 e e' g j1 k1 h3 h4
  ·intro s e g h1 h2
   rcases ent2 h1 with ⟨t,j1,jx,j2⟩ | ⟨j1,j2,j3⟩
   ·ð⟨q1,q2,q3⟩:=cal j1 h2
    &⟨q1,λhM=>?_,λhm=>?_,?_⟩
    ·have hlt:=Vm (hI.lt g hM).1 hI.size
     rcases q2 with q | q
     ·omega
     ·ð⟨_,s0,e0,_,p2,p3⟩:=Y0 q
      ~(hI.at_ s0 e0 g p2 p3).2.1 hM
    ·rcases q3 hm with q | q
     ·~.inl (Ug hI.size q)
     ·ð⟨_,s0,e0,_,p2,p3,p4⟩:=X0 q
      ~(hI.at_ s0 e0 g p2 p4).2.2.1 p3
    ·rcases q2 with q | q
     ·~.inl (Ug hI.size q)
     ·ð⟨_,s0,e0,_,p2,p3⟩:=Y0 q
      ~(hI.at_ s0 e0 g p2 p3).2.2.2
   ·ð⟨q1,q2⟩:=hI.at_ s e g j1 h2
    ~⟨Vm q1 hsz,q2⟩
 have inU:∀ {s' s},ρ.get s'=some s->s∈(QaK ρ S.length nxt S').map (·.1):=λ{s' s} h=>by
  unfold QaK
  rw [WH,Wn,W3]
  ~.inl (Wk.2 ⟨(s',s),Ren.get_mem h,rfl⟩)
 have inU2:∀ {s},nxt<=s->s<nxt+n->s∈(QaK ρ S.length nxt S').map (·.1):=λ{s} h1 h2=>by
  unfold QaK
  rw [WH,Wn]
  &.inr ?_
  rw [W3]
  ~Wk.2 ⟨s-nxt,Wz.2 (by simp only [n] at h2;omega),by show nxt+(s-nxt)=s;omega⟩
 have hL2:Loc ((QaK ρ S.length nxt S').map (·.1)) m m2:=by
  &⟨⟨hsz,rfl,λk hk hn=>⟨?_,λh=>?_⟩,λs x hx=>?_⟩,λs hs=>?_,λk hk h=>?_⟩
  ·&hI1.old k hk λh=>hn ?_
   ð⟨_,s0,e0,_,p2,p3,p4⟩:=X0 h
   ~.inr ⟨s0,e0,p2,p3,p4⟩
  ·rcases h with h | ⟨s,e,h1,h2,h3⟩
   ·~hn (.inl h)
   ·rcases ent2 h1 with ⟨t,j1,jx,j2⟩ | ⟨j1,j2,j3⟩
    ·rcases (cal j1 h3).2.2 h2 with q | q
     ·omega
     ·ð⟨_,s0,e0,_,p2,p3,p4⟩:=X0 q
      ~hn (.inr ⟨s0,e0,p2,p3,p4⟩)
    ·~hn (.inr ⟨s,e,j1,h2,h3⟩)
  ·show ∃ x',σ2 s=some x'/\_
   simp only [σ2]
   rw [if_neg (λhn=>by rw [hF s hn.1 hn.2] at hx;cases hx)]
   split
   ·rename_i s' hr
    split
    ·have:=at0 (invget.1 hr)
     ~hE1 s' x (by rw [this];~hx)
    ·~⟨none,rfl,λe h=>by cases h⟩
   ·~⟨x,hx,λe h=>⟨e,h,rfl,rfl⟩⟩
  ·show σ2 s=m.σ s
   simp only [σ2]
   rw [if_neg λhn=>hs (inU2 hn.1 hn.2)]
   split
   ·rename_i s' hr;~absurd (inU (invget.1 hr)) hs
   ·rfl
  ·&hI1.old k hk λhX=>?_
   ð⟨s',s0,e0,p1,p2,p3,p4⟩:=X0 hX
   ~h s0 e0 p2 p4 (inU p1)
 have phiσ:∀ s x,m1.σ s=some x->m2.σ (phi ρ S.length nxt s)=some x\/m2.σ (phi ρ S.length nxt s)=some none:=λs x hx=>by
  have hlt:s<idb S' S.length:=by
   rcases Ws s (idb S' S.length) with h | h
   ·~h
   ·rw [show m1.σ s=none from hlim1 s h] at hx;cases hx
  show σ2 _=_\/σ2 _=_
  unfold phi
  cases hr:ρ.get s with
  | some t =>
   simp only [σ2]
   rw [if_neg (notnew hr),invget.2 hr]
   dsimp only
   split
   ·~.inl hx
   ·~.inr rfl
  | none =>
   have hge:S.length<=s:=by
    rcases Ws s S.length with h | h
    ·have:=o4 s (Wz.2 h)
     rw [hr] at this;cases this
    ·~h
   simp only [σ2]
   rw [if_pos (by simp only [n];omega),show S.length+(nxt+(s-S.length)-nxt)=s by omega]
   split
   ·~.inl hx
   ·~.inr rfl
 have hno2:(∀ k,¬ Bk k)->∀ k,m2.no k->m1.no k:=λhB k h=>by
  rcases h with h | ⟨s,e,h1,h2,h3⟩
  ·&.inl ⟨.inl h,λhX=>?_,hB k⟩
   ð⟨_,s0,e0,_,p2,p3,p4⟩:=X0 hX
   ~(hI.at_ s0 e0 k p2 p4).2.1 h
  ·rcases ent2 h1 with ⟨t,j1,jx,j2⟩ | ⟨j1,j2,j3⟩
   ·~.inr ⟨t,e,j1,h2,h3⟩
   ·&.inl ⟨.inr ⟨s,e,j1,h2,h3⟩,λhX=>?_,hB k⟩
    ð⟨s',s0,e0,p1,p2,p3,p4⟩:=X0 hX
    have:=hI.inj s s0 e e0 k j1 p2 h3 p4
    subst this
    rw [invget.2 p1] at j2;cases j2
 &⟨m2,rfl,hI2,hL2,ren_rep (m1:=m1) phiσ hrep1 (hsc.imp (·.1) λh=>⟨rfl,hno2 h⟩),λp hp=>?_⟩
 have hold:∀ s' ob,S'.get s'=some ob->m2.σ (phi ρ S.length nxt s')=m1.σ s'->Holds m2 (phi ρ S.length nxt s') (renO (phi ρ S.length nxt) ob):=λs' ob h1 h2 =>
  ren_holds (m1:=m1) phiσ (hS1 s' ob h1) h2 rfl (hsc.imp (λh=>h.2 s' ob h1) λh=>hno2 h)
 unfold QaK at hp
 rcases Wn.1 hp with hp | hp
 ·ð⟨⟨s',s⟩,hq,rfl⟩:=Wk.1 hp
  have hr:=Qep o2 hq
  have hphi:phi ρ S.length nxt s'=s:=by unfold phi;rw [hr]
  have hσ2:σ2 s=if (S'.get s').isSome then σ1 s' else some none:=by
   simp only [σ2]
   rw [if_neg (notnew hr),invget.2 hr]
  unfold Upd
  dsimp only
  cases hx:S'.get s' with
  | none=>rw [hx] at hσ2;~hσ2
  | some ob =>
   rw [hx] at hσ2
   have:=hold s' ob hx (by rw [hphi];~hσ2)
   rw [hphi] at this
   ~this
 ·ð⟨i,hi,rfl⟩:=Wk.1 hp
  have hi':i<n:=Wz.1 hi
  have hr:ρ.get (S.length+i)=none:=by
   cases hr:ρ.get (S.length+i) with
   | none=>rfl
   | some t=>have:=(key hr).1;omega
  have hphi:phi ρ S.length nxt (S.length+i)=nxt+i:=by unfold phi;rw [hr];dsimp only;omega
  have hσ2:σ2 (nxt+i)=if (S'.get (S.length+i)).isSome then σ1 (S.length+i) else some none:=by
   simp only [σ2]
   rw [if_pos Oo,show nxt+i-nxt=i by omega]
  unfold Upd
  dsimp only
  cases hx:S'.get (S.length+i) with
  | none=>rw [hx] at hσ2;~hσ2
  | some ob =>
   rw [hx] at hσ2
   have:=hold _ ob hx (by rw [hphi];~hσ2)
   rw [hphi] at this
   ~this
end
section
variable{P:Program}{env:Env}{sto:Sto}{nxt:Nat}{o:Oper}
inductive Qbv(env:Env):Operand->Nat->List DV->Prop
 | func {f:Nat}:Qbv env (.func f) f []
 | tmp {t f:Nat}:env.get t = .lit (.func (.func f) #[] #[])->Qbv env (.tmp t) f []
 | clo {t f:Nat} {cap:List DV}:env.get t = .fn f cap->Qbv env (.tmp t) f cap
theorem exec_call{m:Mem}{a:Act}{c:Operand}{l:List Operand}{ty:Array TypeId}{f:Nat}{cap:List DV}(ho:o.op = .call ⟨.value c,l.toArray,ty⟩)(hE:OpsRep m a env o)(hc:Qbv env c f cap)(hf:∀ args w,(callFunc f args).run P w = .ok (.enter f args) w) :
  ∃ vs:List Value,(execOp a.eval o).run P m.w = .ok (.enter f vs.toArray) m.w/\Reps m vs (l.map (opd env)++cap):=by
 have hargs:Reps m (l.map a.eval) (l.map (opd env)):=⟨Os,evals_rep λx hx=>hE x (by simp [ho,Op.operands,Call.operands,hx])⟩
 have app:∀ {us:List Value} {cap:List DV},Reps m us cap->Reps m (l.map a.eval++us) (l.map (opd env)++cap):=λ{us cap} h=>by
  &⟨by simp [h.1],λi v d hv hd=>?_⟩
  by_cases hi:i<l.length
  ·rw [WM (by simpa using hi)] at hv hd
   ~hargs.2 i v d hv hd
  ·rw [WO (by simp;omega)] at hv hd
   simp only [Wb] at hv hd
   ~h.2 _ v d hv hd
 have hcv:=hE c (by simp [ho,Op.operands,Call.operands])
 cases hc with
 | func =>
  &⟨l.map a.eval++[],?_,app ⟨rfl,λi v d hv=>by simp at hv⟩⟩
  simp [execOp,ho,resolve,Act.eval,Deferred.ofValue,invoke,hf]
 | @tmp t _ h =>
  have:a.eval (.tmp t) = .func (.func f) #[] #[]:=by
   have h2:=hcv
   rw [show opd env (.tmp t)=_ from h] at h2
   ~h2.lit_inv
  &⟨l.map a.eval++[],?_,app ⟨rfl,λi v d hv=>by simp at hv⟩⟩
  simp [execOp,ho,resolve,this,Deferred.ofValue,invoke,hf]
 | @clo t _ cap h =>
  have h2:=hcv
  rw [show opd env (.tmp t)=_ from h] at h2
  ð⟨us,h3,h4,h5⟩:=h2.fn_inv
  &⟨l.map a.eval++us,?_,app ⟨h4,h5⟩⟩
  simp [execOp,ho,resolve,h3,Deferred.ofValue,invoke,hf]
def outOf(ρ:Ren)(n0 nxt:Nat)(r:DV)(S':Sto)(us:List (Nat×Option Ob))(fr:List Nat):Out :=
 ⟨ren (phi ρ n0 nxt) r,QaK ρ n0 nxt S'++us,ρ.map (·.2)++fr,idb S' n0-n0⟩
def Qf6(sto:Sto)(ρ:Ren):Bool:=ρ.all λp=>(sto.get p.2).isSome
theorem known_live{m:Mem}{ρ:Ren}(hk:Qf6 sto ρ=true)(hH:QU m sto (ρ.map (·.2))):∀ s' s,ρ.get s'=some s->∃ e,m.σ s=some (some e):=λs' s h=>by
 have:=WY.1 hk _ (Ren.get_mem h)
 ð⟨ob,hob⟩:=VL.1 this
 ð⟨e,he,_⟩:=hH s (Wk.2 ⟨_,Ren.get_mem h,rfl⟩) ob hob
 ~⟨e,he⟩
theorem r_callF{c:Operand}{args:Array Operand}{l:List Operand}{ty:Array TypeId}{f:Nat}{cap ds:List DV}{S:Sto}{r:DV}{S':Sto}{ρ:Ren}{fr1 fr2:List Nat}(ho:o.op = .call ⟨.value c,args,ty⟩)(hl:args=l.toArray)(hcl:Qbv env c f cap)(hc:DCall P f ds S r S')
  (hA:CvL sto ρ (l.map (opd env)++cap) ds fr1)(hS:CvS sto ρ S fr2)(hok:okC ρ (fr1++fr2) S.length=true)(hkn:Qf6 sto ρ=true) :
  Qv P o env sto nxt (outOf ρ S.length nxt r S' (Qdr sto (fr1++fr2)) (fr1++fr2)):=λF m a hI hE hH hF K Q hK=>by
 subst hl
 ð⟨vs,h1,h2⟩:=exec_call (P:=P) ho hE hcl hc.1
 have hHr:QU m sto (ρ.map (·.2)):=λs hs=>hH s (Wf _ hs)
 have hHf:QU m sto (fr1++fr2):=λs hs=>hH s (Wj _ hs)
 ð⟨hIf,hLf⟩:=QeM hI (fr1++fr2)
 have hdis:∀ s' s,ρ.get s'=some s->s∉fr1++fr2:=λs' s h hin=>by
  simp only [okC,W9,WY,Vy] at hok
  have:=(hok.1.2 _ (Ren.get_mem h)).2
  rw [Uc.2 hin] at this;cases this
 have hfz:∀ s∈fr1++fr2,∀ e g,(frz m (fr1++fr2)).σ s=some (some e)->e.has g->¬ (frz m (fr1++fr2)).no g:=λs hs e g h1 h2=>by
  &not_no_has hIf h1 h2 ?_
  ð⟨e0,q1,_⟩:=QbY h1
  rw [frz_in hs q1] at h1
  simp only [Wu,Wx] at h1
  rw [<- h1]
 have core:=call_core (m:=frz m (fr1++fr2)) (nxt:=nxt) hIf hc hok (λs hs=>Wf _ hs) (λs hs=>Wj _ hs)
  (λs hs ob hob=>⟨true,frz_holds hI hs (hHf s hs ob hob)⟩) (λs' s ob hr hob=>frz_keeps hI (hHr s (Wk.2 ⟨_,Ren.get_mem hr,rfl⟩) ob hob) (hdis s' s hr)) hS hA
  (show Reps (frz m (fr1++fr2)) vs _ from ⟨h2.1,λi v d hv hd=>(h2.2 i v d hv hd).ext hLf.toExt⟩)
  (λs q1 q2=>by
   have:=hF s q1 q2
   show (if s∈fr1++fr2 then _ else _)=_
   split
   ·rw [this];rfl
   ·~this)
  (λs' s hr=>by
   ð⟨e,he⟩:=known_live hkn hHr s' s hr
   &⟨e,?_⟩
   show (if s∈fr1++fr2 then _ else _)=_
   rw [if_neg (hdis s' s hr)];~he)
  (λ_=>False) (λs hs e g q1 q2=>.inl (hfz s hs e g q1 q2)) (.inr λk h=>h)
 unfold Oper.wp
 rw [h1]
 &Calls.mono core λe w' ⟨v,he,m',hw,hI',hL',hr',hU'⟩=>?_
 subst he
 subst hw
 show K (a.put o.dst v) m'.w
 have hL:=Loc.trans hLf hL' λs e g he hb hg hs=>by
  ð⟨e0,k1,k2,k3,_,k5⟩:=QbY he
  ~⟨s,e0,k1,Ent.has_eq k3 k5 hb,hs⟩
 have mem_fr:∀ s∈fr1++fr2,(sto.get s).isSome=true->s∈(Qdr sto (fr1++fr2)).map (·.1):=λs hs hx=>by
  generalize fr1++fr2=L at hs
  induction L with
  | nil=>cases hs
  | cons x L ih =>
   unfold Qdr
   rcases Wt.1 hs with rfl | h
   ·ð⟨ob,hob⟩:=VL.1 hx
    rw [hob];simp
   ·split
    ·~Wm _ (ih h)
    ·~ih h
 have known:∀ {xs ys:List DV} {r:List Nat},CvL sto ρ xs ys r->∀ s∈r,(sto.get s).isSome=true:=λh=>h.known
 have knownS:∀ {S:Sto} {r:List Nat},CvS sto ρ S r->∀ s∈r,(sto.get s).isSome=true:=by
  intro S r h
  induction h with
  | nil=>intro s hs;cases hs
  | cons h1 h2 h3 _ ih =>
   intro s hs
   rcases Wn.1 hs with h | h
   ·cases h3 with
    | arr=>cases h
    | rows _ _ hk=>~hk s h
   ·~ih s h
 have fr_in:∀ s∈fr1++fr2,s∈(Qdr sto (fr1++fr2)).map (·.1):=λs hs=>mem_fr s hs (by
  rcases Wn.1 hs with h | h
  ·~known hA s h
  ·~knownS hS s h)
 &hK v m' hI' ⟨hL.toExt,λs hs=>hL.same s λh=>hs ?_,λk hk hn=>hL.blk k hk λs e he hb h=>hn s e he hb ?_⟩ hr' λp hp=>?_
 ·show s∈(QaK ρ S.length nxt S'++Qdr sto (fr1++fr2)).map (·.1)
  rw [WH,Wn]
  rcases Wn.1 h with h | h
  ·~.inr (fr_in s h)
  ·~.inl h
 ·show s∈(QaK ρ S.length nxt S'++Qdr sto (fr1++fr2)).map (·.1)
  rw [WH,Wn]
  rcases Wn.1 h with h | h
  ·~.inr (fr_in s h)
  ·~.inl h
 ·rcases Wn.1 (show p∈QaK ρ S.length nxt S'++Qdr sto (fr1++fr2) from hp) with hp | hp
  ·~hU' p hp
  ·have hu:=frzU_upd hI (λ_ h=>h) hHf p hp
   have hpin:p.1∈fr1++fr2:=by
    have key:∀ L:List Nat,p∈Qdr sto L->p.1∈L:=by
     intro L
     induction L with
     | nil=>intro h;cases h
     | cons x L ih =>
      intro h
      unfold Qdr at h
      split at h
      ·rcases Wt.1 h with rfl | h
       ·simp
       ·~Wm _ (ih h)
      ·~Wm _ (ih h)
    ~key _ hp
   have hne:p.1∉(QaK ρ S.length nxt S').map (·.1):=λh=>by
    unfold QaK at h
    rw [WH,Wn,W3,W3] at h
    rcases h with h | h
    ·ð⟨q,hq,hqe⟩:=Wk.1 h
     simp only [okC,W9,WY,Vy] at hok
     have:=(hok.1.2 _ hq).2
     rw [Uc.2 (show q.2∈fr1++fr2 from (show p.1=q.2 from hqe.symm)▸hpin)] at this;cases this
    ·ð⟨i,hi,hie⟩:=Wk.1 h
     have h0:=hF (nxt+i) Oo (by show nxt+i<nxt+(idb S' S.length-S.length);have:=Wz.1 hi;omega)
     have hx:(sto.get p.1).isSome=true:=by
      rcases Wn.1 hpin with h | h
      ·~known hA _ h
      ·~knownS hS _ h
     ð⟨ob,hob⟩:=VL.1 hx
     ð⟨e,he,_⟩:=hHf p.1 hpin ob hob
     rw [show p.1=nxt+i from hie.symm,h0] at he;cases he
   unfold Upd at hu ⊢
   cases hq:p.2 with
   | some ob=>rw [hq] at hu;~Holds.loc hIf hL' hne hu
   | none=>rw [hq] at hu;dsimp only at hu ⊢;rw [hL'.same p.1 hne];~hu
theorem r_callB{c:Operand}{args:Array Operand}{l:List Operand}{ty:Array TypeId}{f:Nat}{cap ds:List DV}{S:Sto}{r:DV}{S':Sto}{ρ:Ren}{fr1 fr2:List Nat}(ho:o.op = .call ⟨.value c,args,ty⟩)(hl:args=l.toArray)(hcl:Qbv env c f cap)(hc:DCall P f ds S r S')
  (hr:Sc r)(hsS:ScS S')(hA:CvL sto ρ (l.map (opd env)++cap) ds fr1)(hS:CvS sto ρ S fr2)(hok:okC ρ (fr1++fr2) S.length=true)(hkn:Qf6 sto ρ=true) :
  Qv P o env sto nxt (outOf ρ S.length nxt r S' [] (fr1++fr2)):=λF m a hI hE hH hF K Q hK=>by
 subst hl
 ð⟨vs,h1,h2⟩:=exec_call (P:=P) ho hE hcl hc.1
 have hHr:QU m sto (ρ.map (·.2)):=λs hs=>hH s (Wf _ hs)
 have hHf:QU m sto (fr1++fr2):=λs hs=>hH s (Wj _ hs)
 have core:=call_core (nxt:=nxt) hI hc hok (λs hs=>Wf _ hs) (λs hs=>Wj _ hs) hHf.f
  (λs' s ob hr hob=>hHr s (Wk.2 ⟨_,Ren.get_mem hr,rfl⟩) ob hob) hS hA h2 hF (known_live hkn hHr)
  (λk=>∃ s∈fr1++fr2,∃ e,m.σ s=some (some e)/\e.has k) (λs hs e g q1 q2=>.inr ⟨s,hs,e,q1,q2⟩) (.inl ⟨hr,hsS⟩)
 unfold Oper.wp
 rw [h1]
 &Calls.mono core λe w' ⟨v,he,m',hw,hI',hL',hr',hU'⟩=>?_
 subst he
 subst hw
 &hK v m' hI' ?_ hr' λp hp=>hU' p ?_
 ·simpa only [outOf,Vl] using hL'
 ·have:p∈QaK ρ S.length nxt S'++[]:=hp
  rwa [Vl] at this
end
end Go.Proofs.YtkfnkecgcdhncaaGreat
