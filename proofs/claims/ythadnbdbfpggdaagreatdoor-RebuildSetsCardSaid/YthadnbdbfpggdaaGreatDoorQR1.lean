/- Parts of the proof. No condition. -/
import Derived.Test.YthadnbdbfpggdaaGreatDoorQR0
import Derived.WalkKit
import Derived.WalkSpells
import Derived.WalkLawsBesides
import Derived.Lib.Hide
import Derived.Orders
import Derived.Laws.CopyRow
import Derived.Laws.AppendOwn
import Derived.Laws.OwnMore
import Derived.Laws.MakeOwn
import Derived.Great.BuildSlice
import Derived.RegionTactic
import Derived.Deep.RegionHeld
noncomputable section
namespace Go.Proofs.YthadnbdbfpggdaaGreatDoor
open Go.RowKit
set_option linter.unusedSimpArgs false
set_option linter.unusedVariables false
def tabL:List Int:=[0,1,56,2,57,49,28,3,61,58,42,50,38,29,17,4,62,47,59,36,45,43,51,22,53,39,33,30,24,18,12,5,63,55,48,27,60,41,37,16,46,35,44,21,52,32,23,11,54,26,40,15,34,20,31,10,25,14,19,9,13,8,7,6]
def gTab:Option (Nat×List Int):=some (0,tabL)
inductive DV where
 | any
 | lit (v:Value)
 | sl (xs:List (List DV))
 | own (s off len:Nat)
 | ptr (s i j:Nat)
 | pp (xs:List DV)
 | agg (xs:List DV)
 | tup (xs:List DV)
 | fn (f:FuncId) (cap:List DV)
 | dp (z:Nat) (xs:List (List DV))
 deriving Inhabited
structure Ent where
 esz:Nat
 blk:Option (Nat×Nat)
 mu:Bool
 inn:Nat->Prop:=λ_=>False
def Ent.has(e:Ent)(k:Nat):Prop:=(∃ c,e.blk=some (k,c))\/e.inn k
theorem Ent.has_eq{e a:Ent}(h:e.blk=a.blk)(c:e.inn=a.inn){k:Nat}(b:e.has k):a.has k:=by unfold Ent.has at b ⊢;rw[<- h,<- c];exact b
theorem Ent.has_blk{e:Ent}{k c:Nat}(h:e.blk=some (k,c)):e.has k:=.inl ⟨c,h⟩
structure Mem where
 w:World
 M:Nat->Prop
 σ:Nat->Option (Option Ent)
def Mem.no(m:Mem)(k:Nat):Prop:=m.M k\/∃ s e,m.σ s=some (some e)/\e.mu=true/\e.has k
inductive PRep(w:World)(no:Nat->Prop):Value->DV->Prop
 | lit (v:Value):v.oneCell'=true->PRep w no v (.lit v)
 | nil (a:Option Addr) (cap:Nat):cap<=maxLen->PRep w no (.slice a 0 cap) (.sl [])
 | sl (b off cap sz:Nat) (xs:List (List DV)) (f:Nat->Nat->Value):0<sz->0<xs.length->xs.length<=cap->cap<=maxLen->¬ no b->b<w.heap.size ->
   (∀ (i:Nat) x,xs[i]?=some x->x.length=sz) ->
   (∀ (i:Nat) x (j:Nat) d,xs[i]?=some x->x[j]?=some d->w.cell? ⟨b,off+i*sz+j,none⟩=some (f i j)) ->
   (∀ (i:Nat) x (j:Nat) d,xs[i]?=some x->x[j]?=some d->PRep w no (f i j) d) ->
   PRep w no (.slice (some ⟨b,off,none⟩) xs.length cap) (.sl xs)
theorem QaI{w c:World}{b o:Nat}(h:c.heap[b]?=w.heap[b]?):c.cell? ⟨b,o,none⟩=w.cell? ⟨b,o,none⟩ :=
 World.cell?_of_block (a:=⟨b,o,none⟩) h
theorem PRep.ext{w e:World}{no c:Nat->Prop}(p:w.heap.size<=e.heap.size)(o:∀ k,k<w.heap.size->¬ no k->e.heap[k]?=w.heap[k]?/\¬ c k){v:Value}{d:DV}(h:PRep w no v d):PRep e c v d:=by
 induction h with
 | lit v h=>exact .lit v h
 | nil a cap h=>exact .nil a cap h
 | sl b off cap sz xs f h1 h2 h3 h4 h5 h6 h7 h8 _ ih =>obtain ⟨g,l⟩:=o b h6 h5;exact .sl b off cap sz xs f h1 h2 h3 h4 l Oo h7 (λi x j d m n=>by rw[QaI g];exact h8 i x j d m n) ih
inductive Rep(m:Mem):Value->DV->Prop
 | any (v:Value):Rep m v .any
 | pure {v:Value} {d:DV}:PRep m.w m.no v d->Rep m v d
 | own {s:Nat} {e:Ent} {g cap off len:Nat}:m.σ s=some (some e)->e.blk=some (g,cap)->off+len<=cap->cap<=maxLen ->
   Rep m (.slice (some ⟨g,off*e.esz,none⟩) len (cap-off)) (.own s off len)
 | ownNil {s:Nat} {e:Ent}:m.σ s=some (some e)->e.blk=none->Rep m (.slice none 0 0) (.own s 0 0)
 | ownOld {s:Nat} {off len:Nat} {u:Value}:m.σ s=some none->Rep m u (.own s off len)
 | ptr {s:Nat} {e:Ent} {g cap i j:Nat}:m.σ s=some (some e)->e.blk=some (g,cap)->Rep m (.pointer (some ⟨g,i*e.esz+j,none⟩)) (.ptr s i j)
 | ptrOld {s:Nat} {i j:Nat} {u:Value}:m.σ s=some none->Rep m u (.ptr s i j)
 | pp {b off:Nat} {xs:List DV} (f:Nat->Value):¬ m.no b->b<m.w.heap.size ->
   (∀ (j:Nat) d,xs[j]?=some d->m.w.cell? ⟨b,off+j,none⟩=some (f j))->(∀ (j:Nat) d,xs[j]?=some d->PRep m.w m.no (f j) d) ->
   Rep m (.pointer (some ⟨b,off,none⟩)) (.pp xs)
 | agg {vs:List Value} {xs:List DV}:vs.length=xs.length->(∀ (i:Nat) v d,vs[i]?=some v->xs[i]?=some d->Rep m v d)->Rep m (.agg vs.toArray) (.agg xs)
 | tup {vs:List Value} {xs:List DV}:vs.length=xs.length->(∀ (i:Nat) v d,vs[i]?=some v->xs[i]?=some d->Rep m v d)->Rep m (.tuple vs.toArray) (.tup xs)
 | fn {f:FuncId} {vs:List Value} {xs:List DV}:vs.length=xs.length->(∀ (i:Nat) v d,vs[i]?=some v->xs[i]?=some d->Rep m v d)->Rep m (.func (.func f) #[] vs.toArray) (.fn f xs)
 | dp (v:Value) {z:Nat} {xs:List (List DV)}:Rep m v (.dp z xs)
structure Ext(m m':Mem):Prop where
 size:m.w.heap.size<=m'.w.heap.size
 M:m'.M=m.M
 keep:∀ k,k<m.w.heap.size->¬ m.no k->m'.w.heap[k]?=m.w.heap[k]?/\¬ m'.no k
 ent:∀ s x,m.σ s=some x->∃ x',m'.σ s=some x'/\∀ e',x'=some e'->∃ e,x=some e/\e'.esz=e.esz/\e'.blk=e.blk
theorem Ext.refl(m:Mem):Ext m m:=⟨Wl _,rfl,λ_ _ h=>⟨rfl,h⟩,λ_ x h=>⟨x,h,λa h=>⟨a,h,rfl,rfl⟩⟩⟩
theorem Ext.trans{a b c:Mem}(h:Ext a b)(k:Ext b c):Ext a c:=by
 refine ⟨Ub h.size k.size,k.M.trans h.M,λi l y=>?_,λs x z=>?_⟩
 ·obtain ⟨d,e⟩:=h.keep i l y;obtain ⟨f,g⟩:=k.keep i (Vp l h.size) e;exact ⟨f.trans d,g⟩
 ·obtain ⟨m,d,e⟩:=h.ent s x z;obtain ⟨n,f,g⟩:=k.ent s m d;refine ⟨n,f,λA j=>?_⟩;obtain ⟨o,p,q,r⟩:=g A j;obtain ⟨t,u,v,w⟩:=e o p;exact ⟨t,u,q.trans v,r.trans w⟩
theorem Ext.live{m m':Mem}(h:Ext m m'){s:Nat}{e:Ent}(i:m.σ s=some (some e)):m'.σ s=some none\/∃ e',m'.σ s=some (some e')/\e'.esz=e.esz/\e'.blk=e.blk:=by
 obtain ⟨c,b,d⟩:=h.ent s _ i;cases c with
 | none=>exact .inl b
 | some e' =>obtain ⟨j,a,f,g⟩:=d e' rfl;injection a with a;subst a;exact .inr ⟨e',b,f,g⟩
theorem Ext.dead{m m':Mem}(h:Ext m m'){s:Nat}(e:m.σ s=some none):m'.σ s=some none:=by
 obtain ⟨a,b,c⟩:=h.ent s _ e;cases a with
 | none=>exact b
 | some e'=>obtain ⟨f,d,_⟩:=c e' rfl;cases d
theorem Rep.ext{m m':Mem}(h:Ext m m'){v:Value}{d:DV}(r:Rep m v d):Rep m' v d:=by
 induction r with
 | any v=>exact .any v
 | pure p=>exact .pure (p.ext h.size h.keep)
 | @own s e g cap off len h1 h2 h3 h4 =>
  rcases h.live h1 with k | ⟨o,a,c,l⟩
  ·exact .ownOld k
  ·rw[<- c];exact .own a (l.trans h2) h3 h4
 | @ownNil s e h1 h2 =>
  rcases h.live h1 with k | ⟨o,a,c,l⟩
  ·exact .ownOld k
  ·exact .ownNil a (l.trans h2)
 | @ownOld s off len u h1=>exact .ownOld (h.dead h1)
 | @ptr s e g cap i j h1 h2 =>
  rcases h.live h1 with k | ⟨o,a,c,l⟩
  ·exact .ptrOld k
  ·rw[<- c];exact .ptr a (l.trans h2)
 | @ptrOld s i j u h1=>exact .ptrOld (h.dead h1)
 | @pp b off xs f h1 h2 h3 h4 =>obtain ⟨a,c⟩:=h.keep b h2 h1;exact .pp f c (Vp h2 h.size) (λj d n=>by rw[QaI a];exact h3 j d n) (λj d n=>(h4 j d n).ext h.size h.keep)
 | agg hl _ ih=>exact .agg hl ih
 | tup hl _ ih=>exact .tup hl ih
 | fn hl _ ih=>exact .fn hl ih
 | dp v=>exact .dp v
structure Ob where
 esz:Nat
 arr:Bool
 frz:Bool
 els:List (List DV)
def Qhl(m:Mem)(arr:Bool)(v:Value)(d:DV):Prop:=v.oneCell'=true/\if arr then PRep m.w m.no v d else Rep m v d
structure Row(m:Mem)(ob:Ob)(g cap:Nat):Prop where
 cells:∃ cur T,m.w.heap[g]?=some (.cells cur T (0,0))/\cur.size=cap*ob.esz/\∀ (i:Nat) x (j:Nat) d,ob.els[i]?=some x->x[j]?=some d->∃ u,cur[i*ob.esz+j]?=some u/\Qhl m ob.arr u d
 len:ob.els.length<=cap
 max:cap<=maxLen
 pos:0<ob.esz
 sz:∀ (i:Nat) x,ob.els[i]?=some x->x.length=ob.esz
def DpV(m:Mem)(inn:Nat->Prop)(u:Value)(z:Nat)(xs:List (List DV)):Option Nat->Prop
 | none=>u = .slice none 0 0/\xs=[]/\0<z
 | some b=>inn b/\∃ cap,u = .slice (some ⟨b,0,none⟩) xs.length cap/\Row m ⟨z,true,false,xs⟩ b cap
def Deep(m:Mem)(a:Nat->Prop)(c:Ob)(g:Nat):Prop:=∃ B:Nat->Nat->Option Nat, (∀ (i:Nat) x (j:Nat) z xs,c.els[i]?=some x->x[j]?=some (.dp z xs)->∃ u,m.w.cell? ⟨g,i*c.esz+j,none⟩=some u/\DpV m a u z xs (B i j)) /\ (∀ i j i' j' b,a b->B i j=some b->B i' j'=some b->i=i'/\j=j')
theorem Deep.flat{m:Mem}{a:Nat->Prop}{c:Ob}{g:Nat}(h:∀ (i:Nat) x (j:Nat) z xs,c.els[i]?=some x->x[j]?=some (.dp z xs)->False):Deep m a c g :=
 ⟨λ_ _=>none,λi x j z xs d e=>(h i x j z xs d e).elim,λi j f k b _ h=>by cases h⟩
theorem Row.deep{m:Mem}{a:Ob}{g cap:Nat}(r:Row m a g cap)(k:a.arr=true)(b:Nat->Prop):Deep m b a g:=Deep.flat λi x j z xs f h=>by obtain ⟨d,T,l,n,e⟩:=r.cells;obtain ⟨u,o,p,c⟩:=e i x j _ f h;rw[k]at c;cases c
def QH(m:Mem)(s:Nat)(a:Ob):Prop :=
 ∃ e,m.σ s=some (some e)/\e.esz=a.esz/\e.mu=!a.frz /\
  match e.blk with
  | none=>a.els=[]/\0<a.esz
  | some (g,cap)=>Row m a g cap/\Deep m e.inn a g
structure Fm where
 w0:World
 X:Nat->Prop
 Y:Nat->Prop
def TabF(F:Fm)(M:Nat->Prop):Prop:=∀ k l,gTab=some (k,l)->k<F.w0.heap.size/\¬ F.X k/\¬ F.Y k/\¬ M k/\∀ (i:Nat) x,l[i]?=some x->F.w0.cell? ⟨k,i,none⟩=some (.int .u8 x)
theorem TabF.none{F:Fm}{M:Nat->Prop}(h:gTab=Option.none):TabF F M:=λk l e=>by rw[h]at e;cases e
structure Inv(F:Fm)(m:Mem):Prop where
 os:m.w.os=F.w0.os
 tape:m.w.tape=F.w0.tape
 output:m.w.output=F.w0.output
 size:F.w0.heap.size<=m.w.heap.size
 old:∀ k,k<F.w0.heap.size->¬ F.X k->m.w.heap[k]?=F.w0.heap[k]?
 inj:∀ s s' e e' g,m.σ s=some (some e)->m.σ s'=some (some e')->e.has g->e'.has g->s=s'
 at_:∀ s e g,m.σ s=some (some e)->e.has g->g<m.w.heap.size/\¬ m.M g/\(e.mu=true->F.w0.heap.size<=g\/F.X g)/\(F.w0.heap.size<=g\/F.Y g)
 lt:∀ k,m.M k->k<F.w0.heap.size/\¬ F.X k
 wf:∀ s e g c,m.σ s=some (some e)->e.blk=some (g,c)->¬ e.inn g
 tab:TabF F m.M
structure Loc(U:List Nat)(m m':Mem):Prop extends Ext m m' where
 same:∀ s,s∉U->m'.σ s=m.σ s
 blk:∀ k,k<m.w.heap.size->(∀ s e,m.σ s=some (some e)->e.has k->s∉U)->m'.w.heap[k]?=m.w.heap[k]?
theorem Qhl.ext{m m':Mem}(h:Ext m m'){arr:Bool}{v:Value}{d:DV}(r:Qhl m arr v d):Qhl m' arr v d:=by
 refine ⟨r.1,?_⟩;have:=r.2;cases arr
 ·exact Rep.ext h this
 ·exact PRep.ext h.size h.keep this
theorem Row.ext{m m':Mem}(h:Ext m m'){c:Ob}{g cap:Nat}(r:Row m c g cap)(o:m'.w.heap[g]?=m.w.heap[g]?):Row m' c g cap:=by obtain ⟨a,T,e,f,k⟩:=r.cells;exact ⟨⟨a,T,o.trans e,f,λi x j d l n=>(k i x j d l n).imp λu b=>⟨b.1,b.2.ext h⟩⟩,r.len,r.max,r.pos,r.sz⟩
theorem Deep.ext{m m':Mem}(h:Ext m m'){a:Nat->Prop}{k:Ob}{g:Nat}(d:Deep m a k g)(w:∀ {o},m'.w.cell? ⟨g,o,none⟩=m.w.cell? ⟨g,o,none⟩)(v:∀ b,a b->m'.w.heap[b]?=m.w.heap[b]?):Deep m' a k g:=by
 obtain ⟨B,l,n⟩:=d;refine ⟨B,λi x j z xs s t=>?_,n⟩;obtain ⟨u,p,c⟩:=l i x j z xs s t;refine ⟨u,by rw[w];exact p,?_⟩;cases hB:B i j with
 | none=>rw[hB]at c;exact c
 | some b =>rw[hB]at c;obtain ⟨f,e,q,r⟩:=c;exact ⟨f,e,q,r.ext h (v b f)⟩
theorem QH.loc{F:Fm}{U:List Nat}{m m':Mem}(l:Inv F m)(h:Loc U m m'){s:Nat}{n:Ob}(o:s∉U)(r:QH m s n):QH m' s n:=by
 obtain ⟨e,f,q,t,d⟩:=r;refine ⟨e,(h.same s o).trans f,q,t,?_⟩;cases c:e.blk with
 | none=>rw[c]at d;exact d
 | some p =>
  obtain ⟨g,u⟩:=p;rw[c]at d;have a:∀ g,e.has g->m'.w.heap[g]?=m.w.heap[g]?:=λg k=>h.blk g (l.at_ s e g f k).1 λv w i j=>by rw[<- l.inj s v e w g f i k j];exact o
  exact ⟨Row.ext h.toExt d.1 (a g (Ent.has_blk c)),d.2.ext h.toExt (QaI (a g (Ent.has_blk c))) λb c=>a b (.inr c)⟩
theorem Loc.refl(U:List Nat)(m:Mem):Loc U m m:=⟨Ext.refl m,λ_ _=>rfl,λ_ _ _=>rfl⟩
theorem Loc.trans{U V:List Nat}{a b c:Mem}(h:Loc U a b)(k:Loc V b c)
  (r:∀ s e g,b.σ s=some (some e)->e.has g->g<a.w.heap.size->s∈U++V->∃ s' e',a.σ s'=some (some e')/\e'.has g/\s'∈U++V):Loc (U++V) a c:=by
 refine ⟨h.toExt.trans k.toExt,λs d=>?_,λi j m=>?_⟩
 ·rw[Wk,not_or]at d;exact (k.same s d.2).trans (h.same s d.1)
 ·have n:=h.blk i j λs e l f d=>m s e l f (Wg _ d);rw[<- n];refine k.blk i (Vp j h.size) λs e l f d=>?_;obtain ⟨s',e',o,p,q⟩:=r s e i l f j (Wj _ d);exact m s' e' o p q
abbrev Sto:=List (Nat×Ob)
def Sto.get:Sto->Nat->Option Ob
 | [],_=>none
 | (k,ob) :: l,s=>cond (Nat.beq s k) (some ob) (Sto.get l s)
abbrev Env:=List (Nat×DV)
def Env.get:Env->Nat->DV
 | [],_=>.any
 | (k,d) :: l,s=>cond (Nat.beq s k) d (Env.get l s)
theorem JC{α:Type}(a b:Nat)(x y:α):cond (Nat.beq a b) x y=if a=b then x else y:=by
 cases h:Nat.beq a b with
 | true=>rw[if_pos (Nat.eq_of_beq_eq_true h)];rfl
 | false=>rw[if_neg (YP h)];rfl
theorem Sto.get_nil(s:Nat):Sto.get [] s=none:=rfl
theorem Sto.get_cons(k:Nat)(a:Ob)(l:Sto)(s:Nat):Sto.get ((k,a) :: l) s=if s=k then some a else Sto.get l s:=JC _ _ _ _
theorem Env.get_nil(s:Nat):Env.get [] s = .any:=rfl
theorem Env.get_cons(k:Nat)(d:DV)(l:Env)(s:Nat):Env.get ((k,d) :: l) s=if s=k then d else Env.get l s:=JC _ _ _ _
theorem turn{F:Fm}{m:Mem}(f:Inv F m)(U:List Nat)(t:World)(p:Nat->Option (Option Ent))
  (V:t.os=m.w.os)(z:t.tape=m.w.tape)(I:t.output=m.w.output)(i:m.w.heap.size<=t.heap.size)
  (o:∀ k,k<m.w.heap.size->(∀ s∈U,∀ e,m.σ s=some (some e)->e.has k->e.mu=false)->t.heap[k]?=m.w.heap[k]?)
  (b:∀ s,s∉U->p s=m.σ s)
  (J:∀ s∈U,∀ x,m.σ s=some x->∃ x',p s=some x'/\∀ e',x'=some e'->∃ e,x=some e/\e'.esz=e.esz/\e'.blk=e.blk)
  (K:∀ s∈U,∀ e' g,p s=some (some e')->e'.has g->(∃ s0∈U,∃ e,m.σ s0=some (some e)/\e.has g/\(e'.mu=true->e.mu=true)/\∀ s1∈U,∀ e1,p s1=some (some e1)->e1.has g->s1=s)\/(m.w.heap.size<=g/\g<t.heap.size/\∀ s1∈U,∀ e1,p s1=some (some e1)->e1.has g->s1=s))
  (W:∀ s∈U,∀ e g c,p s=some (some e)->e.blk=some (g,c)->¬ e.inn g) :
  Inv F ⟨t,m.M,p⟩/\Loc U m ⟨t,m.M,p⟩:=by
 have aa:F.w0.heap.size<=m.w.heap.size:=f.size;have n:∀ s e g,p s=some (some e)->e.has g->(∃ s0 l,m.σ s0=some (some l)/\l.has g/\(e.mu=true->l.mu=true)/\((s∉U/\s0=s)\/(s∈U/\s0∈U/\∀ s1∈U,∀ e1,p s1=some (some e1)->e1.has g->s1=s)))\/(s∈U/\m.w.heap.size<=g/\g<t.heap.size/\∀ s1∈U,∀ e1,p s1=some (some e1)->e1.has g->s1=s):=λs e g d a=>by
  by_cases j:s∈U
  ·rcases K s j e g d a with ⟨s0,Q,l,R,S,k4,k5⟩ | ⟨Q,R,S⟩
   ·exact .inl ⟨s0,l,R,S,k4,.inr ⟨j,Q,k5⟩⟩
   ·exact .inr ⟨j,Q,R,S⟩
  ·exact .inl ⟨s,e,(b s j)▸d,a,id,.inl ⟨j,rfl⟩⟩
 refine ⟨⟨V.trans f.os,z.trans f.tape,I.trans f.output,Ub f.size i,?_,?_,?_,f.lt,λs e g c d a=>by
  by_cases j:s∈U
  ·exact W s j e g c d a
  ·exact f.wf s e g c ((b s j)▸d) a,f.tab⟩,⟨⟨i,rfl,?_,?_⟩,b,?_⟩⟩
 ·intro k H Z;rw[<- f.old k H Z];refine o k Oo λs _ e d a=>?_;cases hm:e.mu with
  | false=>rfl
  | true =>
   rcases (f.at_ s e k d a).2.2.1 hm with h | h
   ·omega
   ·exact absurd h Z
 ·intro s M e e' g d a T N;rcases n s e g d T with ⟨s0,l,r,q,_,u⟩ | ⟨X,r,q,u⟩
  ·rcases n M e' g a N with ⟨v,w,C,D,_,E⟩ | ⟨Y,C,D,E⟩
   ·have O:=f.inj s0 v l w g r C q D;subst O;rcases u with ⟨L,A⟩ | ⟨L,A,P⟩
    ·rcases E with ⟨G,B⟩ | ⟨G,B,y3⟩
     ·exact A.symm.trans B
     ·exact absurd (A▸B) L
    ·rcases E with ⟨G,B⟩ | ⟨G,B,y3⟩
     ·exact absurd (B▸A) G
     ·exact (P M G e' a N).symm
   ·have:=(f.at_ s0 l g r q).1;omega
  ·rcases n M e' g a N with ⟨v,w,C,D,_,E⟩ | ⟨Y,C,D,E⟩
   ·have:=(f.at_ v w g C D).1;omega
   ·exact (u M Y e' a N).symm
 ·intro s e g d a;rcases n s e g d a with ⟨s0,l,r,q,u,_⟩ | ⟨X,r,q,_⟩
  ·obtain ⟨L,A,P,x4⟩:=f.at_ s0 l g r q;exact ⟨Vp L i,A,λh=>P (u h),x4⟩
  ·exact ⟨q,λh=>by have:=(f.lt g h).1;omega,λ_=>.inl Oo,.inl Oo⟩
 ·intro k H y;refine ⟨o k H λs _ e d a=>?_,λh=>?_⟩
  ·cases hm:e.mu with
   | false=>rfl
   | true=>exact absurd (.inr ⟨s,e,d,hm,a⟩) y
  ·rcases h with h | ⟨s,e,d,a,T⟩
   ·exact y (.inl h)
   ·rcases n s e k d T with ⟨s0,l,r,q,u,_⟩ | ⟨X,r,q,_⟩
    ·exact y (.inr ⟨s0,l,r,u a,q⟩)
    ·omega
 ·intro s x h;by_cases j:s∈U
  ·exact J s j x h
  ·exact ⟨x,(b s j).trans h,λe' h=>⟨e',h,rfl,rfl⟩⟩
 ·intro k H h;exact o k H λs j e d a=>absurd j (h s e d a)
def Z3(σ:Nat->Option (Option Ent))(s:Nat)(e:Option Ent):Nat->Option (Option Ent):=λj=>if j=s then some e else σ j
theorem Qh(σ:Nat->Option (Option Ent))(s:Nat)(e:Option Ent):Z3 σ s e s=some e:=by simp[Z3]
theorem Zi(σ:Nat->Option (Option Ent)){s j:Nat}(e:Option Ent)(h:j≠s):Z3 σ s e j=σ j:=by simp[Z3,h]
theorem turn_newD{F:Fm}{m:Mem}(v:Inv F m){s:Nat}(y:m.σ s=none)(b:World)(e:Ent)
  (o:b.os=m.w.os)(h:b.tape=m.w.tape)(i:b.output=m.w.output)(f:m.w.heap.size<=b.heap.size)(l:∀ k,k<m.w.heap.size->b.heap[k]?=m.w.heap[k]?)
  (w:∀ g,e.has g->m.w.heap.size<=g/\g<b.heap.size)(z:∀ g c,e.blk=some (g,c)->¬ e.inn g):Inv F ⟨b,m.M,Z3 m.σ s (some e)⟩/\Loc [s] m ⟨b,m.M,Z3 m.σ s (some e)⟩:=by
 refine turn v [s] b _ o h i f (λk t _=>l k t) (λj d=>Zi _ _ (by simpa using d)) (λj d x p=>?_) (λj d u g a n=>?_) (λj d u g c a n=>?_)
 ·obtain rfl:j=s:=by simpa using d
  rw[y]at p;cases p
 ·obtain rfl:j=s:=by simpa using d
  rw[Qh]at a;injection a with a;injection a with a;subst a;obtain ⟨q,r⟩:=w g n;exact .inr ⟨q,r,λA a _ _ _=>by simpa using a⟩
 ·obtain rfl:j=s:=by simpa using d
  rw[Qh]at a;injection a with a;injection a with a;subst a;exact z g c n
theorem turn_atD{F:Fm}{m:Mem}(v:Inv F m){s:Nat}{e:Ent}(q:m.σ s=some (some e))(d:World)(b:Bool)(t:b=true->e.mu=true)
  (u:d.os=m.w.os)(i:d.tape=m.w.tape)(n:d.output=m.w.output)(l:m.w.heap.size<=d.heap.size)(o:∀ k,k<m.w.heap.size->(e.has k->e.mu=false)->d.heap[k]?=m.w.heap[k]?) :
  Inv F ⟨d,m.M,Z3 m.σ s (some { e with mu:=b })⟩/\Loc [s] m ⟨d,m.M,Z3 m.σ s (some { e with mu:=b })⟩:=by
 refine turn v [s] d _ u i n l (λk w h=>o k w λy=>h s Os e q y) (λj f=>Zi _ _ (by simpa using f)) (λj f x p=>?_) (λj f z g a r=>?_) (λj f z g c a r=>?_)
 ·obtain rfl:j=s:=by simpa using f
  rw[q]at p;injection p with p;subst p;exact ⟨_,Qh _ _ _,λA h=>by injection h with h;subst h;exact ⟨e,rfl,rfl,rfl⟩⟩
 ·obtain rfl:j=s:=by simpa using f
  rw[Qh]at a;injection a with a;injection a with a;subst a;exact .inl ⟨j,Os,e,q,r,t,λB a _ _ _=>by simpa using a⟩
 ·obtain rfl:j=s:=by simpa using f
  rw[Qh]at a;injection a with a;injection a with a;subst a;exact v.wf j e g c q r
theorem turn_moveD{F:Fm}{m:Mem}(G:Inv F m){s t:Nat}{e:Ent}(v:m.σ s=some (some e))(A:e.mu=true)(y:m.σ t=none)(d:World)(o:Ent)
  (w:d.os=m.w.os)(n:d.tape=m.w.tape)(q:d.output=m.w.output)(l:m.w.heap.size<=d.heap.size)(r:∀ k,k<m.w.heap.size->¬ e.has k->d.heap[k]?=m.w.heap[k]?)
  (H:∀ g,o.has g->e.has g\/(m.w.heap.size<=g/\g<d.heap.size))(I:∀ g c,o.blk=some (g,c)->¬ o.inn g) :
  Inv F ⟨d,m.M,Z3 (Z3 m.σ s none) t (some o)⟩/\Loc [s,t] m ⟨d,m.M,Z3 (Z3 m.σ s none) t (some o)⟩:=by
 have p:s≠t:=λh=>by subst h;rw[v]at y;cases y
 have b:∀ f∈[s,t],∀ a,Z3 (Z3 m.σ s none) t (some o) f=some (some a)->f=t/\a=o:=λf h1 a h=>by
  rcases Wu.1 h1 with rfl | h1
  ·rw[Zi _ _ p,Qh]at h;cases h
  ·obtain rfl:f=t:=by simpa using h1
   rw[Qh]at h;injection h with h;injection h with h;exact ⟨rfl,h.symm⟩
 refine turn G [s,t] d _ w n q l (λk D h=>r k D λE=>?_) (λj i=>?_) (λj i x z=>?_) (λj i a g h1 u=>?_) (λj i a g c h1 u=>?_)
 ·have:=h s Os e v E;rw[A]at this;cases this
 ·rw[Zi _ _ (λh=>i (by simp[h])),Zi _ _ (λh=>i (by simp[h]))]
 ·rcases Wu.1 i with rfl | h1
  ·exact ⟨none,by rw[Zi _ _ p,Qh],λ_ h=>by cases h⟩
  ·obtain rfl:j=t:=by simpa using h1
   rw[y]at z;cases z
 ·obtain ⟨rfl,rfl⟩:=b j i a h1;rcases H g u with h | ⟨B,C⟩
  ·exact .inl ⟨s,Os,e,v,h,λ_=>A,λf h1 a h _=>(b f h1 a h).1⟩
  ·exact .inr ⟨B,C,λf h1 a h _=>(b f h1 a h).1⟩
 ·obtain ⟨rfl,rfl⟩:=b j i a h1;exact I g c u
def noI:Nat->Prop:=λ_=>False
theorem Qdn{F:Fm}{m:Mem}(n:Inv F m){s:Nat}(p:m.σ s=none)(a:World)(e:Ent)
  (j:a.os=m.w.os)(d:a.tape=m.w.tape)(f:a.output=m.w.output)(b:m.w.heap.size<=a.heap.size)(i:∀ k,k<m.w.heap.size->a.heap[k]?=m.w.heap[k]?)
  (o:∀ g c,e.blk=some (g,c)->m.w.heap.size<=g/\g<a.heap.size)(l:e.inn=noI:=by rfl):Inv F ⟨a,m.M,Z3 m.σ s (some e)⟩/\Loc [s] m ⟨a,m.M,Z3 m.σ s (some e)⟩ :=
 turn_newD n p a e j d f b i (λg h=>by
  rcases h with ⟨c,h⟩ | h
  ·exact o g c h
  ·rw[l]at h;exact h.elim) λg c _=>by rw[l];exact id
theorem turn_at{F:Fm}{m:Mem}(p:Inv F m){s:Nat}{e:Ent}(q:m.σ s=some (some e))(a:World)(b:Bool)(j:b=true->e.mu=true)
  (l:a.os=m.w.os)(d:a.tape=m.w.tape)(g:a.output=m.w.output)(f:m.w.heap.size<=a.heap.size)(i:∀ k,k<m.w.heap.size->(∀ c,e.blk=some (k,c)->e.mu=false)->a.heap[k]?=m.w.heap[k]?) :
  Inv F ⟨a,m.M,Z3 m.σ s (some { e with mu:=b })⟩/\Loc [s] m ⟨a,m.M,Z3 m.σ s (some { e with mu:=b })⟩ :=
 turn_atD p q a b j l d g f λk n h=>i k n λc o=>h (.inl ⟨c,o⟩)
theorem Qd9{F:Fm}{m:Mem}(r:Inv F m){s t:Nat}{e:Ent}(u:m.σ s=some (some e))(q:e.mu=true)(v:m.σ t=none)(a:World)(j:Ent)
  (l:a.os=m.w.os)(d:a.tape=m.w.tape)(f:a.output=m.w.output)(b:m.w.heap.size<=a.heap.size)(i:∀ k,k<m.w.heap.size->(∀ c,e.blk≠some (k,c))->a.heap[k]?=m.w.heap[k]?)
  (w:∀ g c,j.blk=some (g,c)->(∃ c',e.blk=some (g,c'))\/(m.w.heap.size<=g/\g<a.heap.size))(n:j.inn=noI:=by rfl) :
  Inv F ⟨a,m.M,Z3 (Z3 m.σ s none) t (some j)⟩/\Loc [s,t] m ⟨a,m.M,Z3 (Z3 m.σ s none) t (some j)⟩ :=
 turn_moveD r u q v a j l d f b (λk o h=>i k o λc p=>h (.inl ⟨c,p⟩)) (λg h=>by
  rcases h with ⟨c,h⟩ | h
  ·rcases w g c h with h | h
   ·exact .inl (.inl h)
   ·exact .inr h
  ·rw[n]at h;exact h.elim) λg c _=>by rw[n];exact id
inductive TK where
 | int (k:IntKind) | flt (k:FloatKind) | bool | str | slice (e:Nat) | struct (fs:List (Nat×Nat)) | array (n e:Nat) | ptr (e:Nat) | other
structure TyD where
 k:TK
 size:Nat
 bytes:Nat
 zero:List DV
def TyD.agg(d:TyD):Bool:=match d.k with | .struct _ | .array _ _=>true | _=>false
structure QB(P:Program)(t:Nat)(d:TyD):Prop where
 kind:match d.k with
  | .int k=>P.underlying t=some (.int k)
  | .flt k=>P.underlying t=some (.float k)
  | .bool=>P.underlying t=some .bool
  | .str=>P.underlying t=some .string
  | .slice e=>P.underlying t=some (.slice e)
  | .struct fs=>∃ fields,P.underlying t=some (.struct fields)/\fields.toList.map (λf=>(f.offset,P.cellsOf f.type))=fs/\fields.toList.all (λf=>(P.info? f.type).isSome)=true
  | .array n e=>P.underlying t=some (.array n e)
  | .ptr e=>P.underlying t=some (.pointer e)
  | .other=>∃ u,P.underlying t=some u/\(match u with | .struct _ | .array _ _=>False | _=>True)
 info:(P.info? t).map (λi=>(i.size,i.bytes))=some (d.size,d.bytes)
 zero:∃ z,(P.info? t).map (·.zero)=some (some z)/\z.cells.toList.map DV.lit=d.zero/\z.cells.toList.all Value.oneCell'=true/\(if d.agg then ∃ cs,z = .agg cs else z.oneCell'=true)
section
variable{m:Mem}
theorem Rep.lit_inv{v u:Value}(h:Rep m v (.lit u)):v=u:=by cases h with | pure h=>cases h with | lit=>rfl
theorem Rep.lit_one{v u:Value}(h:Rep m v (.lit u)):u.oneCell'=true:=by cases h with | pure h=>cases h with | lit _ h=>exact h
theorem Rep.sl_inv{v:Value}{xs:List (List DV)}(h:Rep m v (.sl xs)):PRep m.w m.no v (.sl xs):=by cases h with | pure h=>exact h
theorem Rep.agg_inv{v:Value}{xs:List DV}(h:Rep m v (.agg xs)):∃ vs:List Value,v = .agg vs.toArray/\vs.length=xs.length/\∀ (i:Nat) u d,vs[i]?=some u->xs[i]?=some d->Rep m u d:=by
 cases h with
 | pure h=>cases h
 | @agg vs _ h1 h2=>exact ⟨vs,rfl,h1,h2⟩
theorem Rep.tup_inv{v:Value}{xs:List DV}(h:Rep m v (.tup xs)):∃ vs:List Value,v = .tuple vs.toArray/\vs.length=xs.length/\∀ (i:Nat) u d,vs[i]?=some u->xs[i]?=some d->Rep m u d:=by
 cases h with
 | pure h=>cases h
 | @tup vs _ h1 h2=>exact ⟨vs,rfl,h1,h2⟩
theorem Rep.fn_inv{v:Value}{f:FuncId}{xs:List DV}(h:Rep m v (.fn f xs)):∃ vs:List Value,v = .func (.func f) #[] vs.toArray/\vs.length=xs.length/\∀ (i:Nat) u d,vs[i]?=some u->xs[i]?=some d->Rep m u d:=by
 cases h with
 | pure h=>cases h
 | @fn _ vs _ h1 h2=>exact ⟨vs,rfl,h1,h2⟩
theorem Rep.pp_inv{v:Value}{xs:List DV}(h:Rep m v (.pp xs)):∃ b off,∃ f:Nat->Value,v = .pointer (some ⟨b,off,none⟩)/\¬ m.no b/\b<m.w.heap.size /\
  (∀ (j:Nat) d,xs[j]?=some d->m.w.cell? ⟨b,off+j,none⟩=some (f j))/\∀ (j:Nat) d,xs[j]?=some d->PRep m.w m.no (f j) d:=by
 cases h with
 | pure h=>cases h
 | pp f h1 h2 h3 h4=>exact ⟨_,_,f,rfl,h1,h2,h3,h4⟩
theorem Jm{v:Value}{s:Nat}{off len:Nat}{b:Ob}(h:Rep m v (.own s off len))(j:QH m s b) :
    ∃ e,m.σ s=some (some e)/\e.esz=b.esz/\e.mu=!b.frz /\
      ((∃ g cap,e.blk=some (g,cap)/\v = .slice (some ⟨g,off*b.esz,none⟩) len (cap-off)/\off+len<=cap/\Row m b g cap) \/
       (e.blk=none/\v = .slice none 0 0/\off=0/\len=0/\b.els=[]/\0<b.esz)):=by
  obtain ⟨e,c,f,i,d⟩:=j;refine ⟨e,c,f,i,?_⟩;cases h with
  | pure h=>cases h
  | @own _ e' g cap _ _ a k2 k3 k4 =>rw[c]at a;injection a with a;injection a with a;subst a;rw[k2]at d;exact .inl ⟨g,cap,k2,by rw[f],k3,d.1⟩
  | @ownNil _ e' a k2 =>rw[c]at a;injection a with a;injection a with a;subst a;rw[k2]at d;exact .inr ⟨k2,rfl,rfl,rfl,d⟩
  | @ownOld _ _ _ _ a =>rw[c]at a;injection a with a;cases a
theorem Qch{v:Value}{s:Nat}{i j:Nat}{b:Ob}(h:Rep m v (.ptr s i j))(l:QH m s b) :
  ∃ e g cap,m.σ s=some (some e)/\e.esz=b.esz/\e.mu=!b.frz/\e.blk=some (g,cap)/\v = .pointer (some ⟨g,i*b.esz+j,none⟩)/\Row m b g cap:=by
 obtain ⟨e,c,d,k,f⟩:=l;cases h with
 | pure h=>cases h
 | @ptr _ e' g cap _ _ a k2 =>rw[c]at a;injection a with a;injection a with a;subst a;rw[k2]at f;exact ⟨e,g,cap,c,d,k,k2,by rw[d],f.1⟩
 | @ptrOld _ _ _ _ a =>rw[c]at a;injection a with a;cases a
theorem add_lit{b o n:Nat}:(⟨b,o,none⟩:Addr).add n=⟨b,o+n,none⟩:=by unfold Addr.add;by_cases h:n=0 <;> simp[h]
theorem Qhl.rep{arr:Bool}{v:Value}{d:DV}(h:Qhl m arr v d):Rep m v d:=by
 obtain ⟨_,h⟩:=h;cases arr
 ·exact h
 ·exact .pure h
theorem Qec{w:World}{no:Nat->Prop}{v:Value}{d:DV}(h:PRep w no v d):v.oneCell'=true:=by
 cases h with
 | lit v h=>exact h
 | nil=>rfl
 | sl=>rfl
def Qd3(m:Mem)(b o:Nat)(cs:List DV):Prop:=∀ (j:Nat) d,cs[j]?=some d->∃ u,m.w.cell? ⟨b,o+j,none⟩=some u/\Rep m u d
theorem Qd3.drop{b o k:Nat}{cs:List DV}(h:Qd3 m b o cs):Qd3 m b (o+k) (cs.drop k):=λj d a=>by rw[WW]at a;have:=h (k+j) d a;rw[<- Vg]at this;exact this
theorem Row.cellsAt{b:Ob}{g cap:Nat}(r:Row m b g cap){i:Nat}{x:List DV}(l:b.els[i]?=some x):Qd3 m g (i*b.esz) x:=λj d k=>by obtain ⟨a,T,c,n,e⟩:=r.cells;obtain ⟨u,f,h⟩:=e i x j d l k;exact ⟨u,by rw[cell_of_row m.w g _ a T (0,0) c];exact f,h.rep⟩
theorem Rep.pp_cells{v:Value}{xs:List DV}(h:Rep m v (.pp xs)):∃ b off,v = .pointer (some ⟨b,off,none⟩)/\Qd3 m b off xs:=by obtain ⟨b,off,f,rfl,g,i,c,e⟩:=h.pp_inv;exact ⟨b,off,rfl,λj d a=>⟨f j,c j d a,.pure (e j d a)⟩⟩
theorem Rep.pp_drop{v:Value}{xs:List DV}(h:Rep m v (.pp xs))(k:Nat):∃ b off,v = .pointer (some ⟨b,off,none⟩)/\Rep m (.pointer (some ⟨b,off+k,none⟩)) (.pp (xs.drop k)):=by
 obtain ⟨b,off,f,rfl,c,e,g,i⟩:=h.pp_inv;refine ⟨b,off,rfl,.pp (λj=>f (k+j)) c e (λj d a=>?_) (λj d a=>?_)⟩
 ·rw[WW]at a;rw[Vg];exact g _ d a
 ·rw[WW]at a;exact i _ d a
theorem PRep.sl_inv{w:World}{no:Nat->Prop}{v:Value}{xs:List (List DV)}(h:PRep w no v (.sl xs)):∃ ad cap,v = .slice ad xs.length cap/\xs.length<=cap/\cap<=maxLen /\
  (xs≠[]->∃ b off sz,∃ f:Nat->Nat->Value,ad=some ⟨b,off,none⟩/\0<sz/\¬ no b/\b<w.heap.size/\(∀ (i:Nat) x,xs[i]?=some x->x.length=sz) /\
   (∀ (i:Nat) x (j:Nat) d,xs[i]?=some x->x[j]?=some d->w.cell? ⟨b,off+i*sz+j,none⟩=some (f i j))/\(∀ (i:Nat) x (j:Nat) d,xs[i]?=some x->x[j]?=some d->PRep w no (f i j) d)):=by
 cases h with
 | nil ad cap h=>exact ⟨ad,cap,rfl,WO _,h,λh=>absurd rfl h⟩
 | sl b off cap sz xs f h1 h2 h3 h4 h5 h6 h7 h8 h9=>exact ⟨_,cap,rfl,h3,h4,λ_=>⟨b,off,sz,f,rfl,h1,h5,h6,h7,h8,h9⟩⟩
variable{P:Program}
theorem ty_agg{t:Nat}{d:TyD}(h:QB P t d)(w:World):(isAgg t).run P w = .ok d.agg w:=by
 have a:=h.kind;unfold TyD.agg;obtain ⟨k,f,c,g⟩:=d;cases k <;> dsimp only at a ⊢
 case struct fs =>
  obtain ⟨b,e,_⟩:=a
  simp[isAgg,run_underlying e]
 case other =>
  obtain ⟨u,e,i⟩:=a
  cases u <;> first | (exact i.elim) | (simp[isAgg,run_underlying e])
 all_goals simp[isAgg,run_underlying a]
theorem QeH{t:Nat}{d:TyD}(h:QB P t d)(w:World):(sizeOf t).run P w = .ok d.size w:=by
 have a:=h.info;cases hh:P.info? t with
 | none=>rw[hh]at a;cases a
 | some i =>rw[hh]at a;simp only[Wx,Wz,Ul]at a;simp[sizeOf,typeInfo,hh,a.1]
def ldD(d:TyD)(a:List DV):Option DV := if d.agg then(if d.size<=a.length then some (.agg (a.take d.size)) else none) else(if d.size=1 then a.head? else none)
def QbE(d:TyD)(x:DV):Option (List DV) :=
 if d.agg then(match x with | .agg cs=>if cs.length=d.size then some cs else none | _=>none) else(if d.size=1 then some [x] else none)
theorem load_ok{t:Nat}{d:TyD}(w:QB P t d){b o:Nat}{cs:List DV}(A:Qd3 m b o cs){y:DV}(c:ldD d cs=some y) :
  ∃ v,(Instr.loadAt t (.pointer (some ⟨b,o,none⟩))).run P m.w = .ok v m.w/\Rep m v y:=by
 unfold ldD at c;by_cases r:d.agg=true
 ·rw[if_pos r]at c;by_cases z:d.size<=cs.length
  ·rw[if_pos z]at c;injection c with c;subst c;have n:∀ j,j<d.size->∃ u,m.w.cell? ⟨b,o+j,none⟩=some u/\∀ e,cs[j]?=some e->Rep m u e:=λj k=>by obtain ⟨u,p,q⟩:=A j cs[j] (Wa Oo);refine ⟨u,p,λe l=>?_⟩;rw[Wa Oo]at l;injection l with l;exact l▸q
   let f:Nat->Value:=λj=>if h:j<d.size then Classical.choose (n j h) else undef;have x:∀ j (h:j<d.size),m.w.cell? ⟨b,o+j,none⟩=some (f j)/\∀ e,cs[j]?=some e->Rep m (f j) e:=λj h=>by simp only[f,h,dif_pos];exact Classical.choose_spec (n j h)
   refine ⟨.agg ((List.range d.size).map f).toArray,?_,?_⟩
   ·have g:=run_loadCells_list (P:=P) m.w ⟨b,o,none⟩ ((List.range d.size).map f) (λj v a=>by
     rw[add_lit]
     simp only[Wh]at a
     have k:j<d.size:=by
      rcases Ws j d.size with h' | h'
      ·exact h'
      ·rw[Wi (by simpa using h')]at a;cases a
     rw[VH k]at a
     injection a with a
     rw[<- a]
     exact (x j k).1)
    rw[Wb,WS]at g;simp[Instr.loadAt,Instr.sureAddr,loadVar,ty_agg w,r,QeH w,g]
   ·refine .agg (by simp;omega) λi v e a l=>?_;rw[Wh]at a;have k:i<d.size:=by
     rcases Ws i d.size with h' | h'
     ·exact h'
     ·rw[Wi (by simpa using h')]at a;cases a
    rw[VH k]at a;injection a with a;rw[UI k]at l;rw[<- a];exact (x i k).2 e l
  ·rw[if_neg z]at c;cases c
 ·rw[if_neg r]at c;by_cases p:d.size=1
  ·rw[if_pos p]at c;obtain ⟨u,q,B⟩:=A 0 y (by rw[<- c];cases cs <;> rfl);refine ⟨u,?_,B⟩;rw[Vz]at q;have s:d.agg=false:=by simpa using r
   simp[Instr.loadAt,Instr.sureAddr,loadVar,ty_agg w,s,load,Sem.run,q]
  ·rw[if_neg p]at c;cases c
theorem QeJ{α:Type}(l vs:List α)(o:Nat)(h:o+vs.length<=l.length)(p:Nat) :
  (l.take o++vs++l.drop (o+vs.length))[p]?=if p<o then l[p]? else if p<o+vs.length then vs[p-o]? else l[p]?:=by
 by_cases b:p<o
 ·rw[if_pos b,WI,WF (by simp;omega),UI b]
 ·rw[if_neg b];have a:(l.take o).length=o:=by simp;omega
  by_cases c:p<o+vs.length
  ·rw[if_pos c,WF (by simp;omega),WC Oo,a]
  ·rw[if_neg c,WC (by simp;omega),WW];congr 1;simp;omega
inductive Box1(sto:Sto):DV->List Nat->Prop
 | lit {v:Value}:Box1 sto (.lit v) []
 | sl {xs:List (List DV)}:Box1 sto (.sl xs) []
 | own {s off len:Nat} {ob:Ob}:sto.get s=some ob->Box1 sto (.own s off len) [s]
 | ptr {s i j:Nat} {ob:Ob}:sto.get s=some ob->Box1 sto (.ptr s i j) [s]
 | fn {f:FuncId} {xs:List DV}:Box1 sto (.fn f xs) []
inductive Box(sto:Sto):List DV->List Nat->Prop
 | nil:Box sto [] []
 | cons {d:DV} {l:List DV} {r r':List Nat}:Box1 sto d r->Box sto l r'->Box sto (d :: l) (r++r')
def QZ(m:Mem)(sto:Sto)(a:List Nat):Prop:=∀ s∈a,∀ ob,sto.get s=some ob->QH m s ob
theorem box1_one{sto:Sto}{c:DV}{r:List Nat}(h:Box1 sto c r)(b:QZ m sto r){u:Value}(a:Rep m u c):u.oneCell'=true:=by
 cases h with
 | lit=>rw[a.lit_inv];exact a.lit_one
 | sl=>exact Qec a.sl_inv
 | own h =>obtain ⟨_,_,_,_,h⟩:=Jm a (b _ Os _ h);rcases h with ⟨g,d,_,rfl,_⟩ | ⟨_,rfl,_⟩ <;> rfl
 | ptr h =>obtain ⟨_,_,_,_,_,_,_,rfl,_⟩:=Qch a (b _ Os _ h);rfl
 | fn=>obtain ⟨e,rfl,_⟩:=a.fn_inv;rfl
theorem box_one{sto:Sto}{cs:List DV}{r:List Nat}(h:Box sto cs r)(e:QZ m sto r) :
  ∀ (i:Nat) c u,cs[i]?=some c->Rep m u c->u.oneCell'=true:=by
 induction h with
 | nil=>intro i c u b;simp at b
 | cons h1 h2 ih =>
  intro i c u b d;cases i with
  | zero =>simp at b;subst b;exact box1_one h1 (λs a=>e s (Wg _ a)) d
  | succ i=>exact ih (λs a=>e s (Wj _ a)) i c u (by simpa using b) d
def box1F(sto:Sto):DV->Option (List Nat)
 | .lit _=>some []
 | .sl _=>some []
 | .own s _ _=>match sto.get s with | some _=>some [s] | none=>none
 | .ptr s _ _=>match sto.get s with | some _=>some [s] | none=>none
 | .fn _ _=>some []
 | _=>none
def boxF(sto:Sto):List DV->Option (List Nat)
 | []=>some []
 | d :: l=>match box1F sto d,boxF sto l with | some a,some b=>some (a++b) | _,_=>none
theorem box1F_ok{sto:Sto}{d:DV}{r:List Nat}(h:box1F sto d=some r):Box1 sto d r:=by
 unfold box1F at h;split at h
 ·injection h with h;subst h;exact .lit
 ·injection h with h;subst h;exact .sl
 ·split at h
  ·injection h with h;subst h;exact .own ‹_›
  ·cases h
 ·split at h
  ·injection h with h;subst h;exact .ptr ‹_›
  ·cases h
 ·injection h with h;subst h;exact .fn
 ·cases h
theorem Qe0{sto:Sto}{l:List DV}{r:List Nat}(h:boxF sto l=some r):Box sto l r:=by
 induction l generalizing r with
 | nil=>injection h with h;subst h;exact .nil
 | cons d l ih =>
  unfold boxF at h;split at h
  ·injection h with h;subst h;exact .cons (box1F_ok ‹_›) (ih ‹_›)
  ·cases h
theorem QgY{d:TyD}{v:Value}{x:DV}(g:Rep m v x){cs:List DV}(a:QbE d x=some cs)(l:∀ (i:Nat) c u,cs[i]?=some c->Rep m u c->u.oneCell'=true) :
  ∃ vs:List Value,v.cells=vs.toArray/\vs.length=d.size/\cs.length=d.size/\(∀ u∈vs,u.oneCell'=true)/\∀ (i:Nat) u c,vs[i]?=some u->cs[i]?=some c->Rep m u c:=by
 unfold QbE at a;by_cases k:d.agg=true
 ·rw[if_pos k]at a;cases x with
  | agg xs =>
   dsimp only at a;by_cases b:xs.length=d.size
   ·rw[if_pos b]at a;injection a with a;subst a;obtain ⟨vs,rfl,o,j⟩:=g.agg_inv;refine ⟨vs,rfl,Oo,b,λu e=>?_,j⟩;obtain ⟨i,f⟩:=W8.1 e;have n:i<vs.length:=by
     rcases Ws i vs.length with h' | h'
     ·exact h'
     ·rw[Wi h']at f;cases f
    exact l i (xs[i]' Oo) u (Wa Oo) (j i u _ f (Wa Oo))
   ·rw[if_neg b]at a;cases a
  | _=>cases a
 ·rw[if_neg k]at a;by_cases b:d.size=1
  ·rw[if_pos b]at a;injection a with a;subst a;have h:=l 0 x v rfl g;refine ⟨[v],?_,by simp[b],by simp[b],λu e=>by rw[Wn.1 e];exact h,λi u c e a=>?_⟩
   ·cases v <;> first | rfl | (simp[Value.oneCell']at h)
   ·cases i with
    | zero=>simp at e a;subst e;subst a;exact g
    | succ i=>simp at e
  ·rw[if_neg b]at a;cases a
theorem store_run{t:Nat}{d:TyD}(h:QB P t d){v:Value}{vs:List Value}(c:v.cells=vs.toArray)(e:vs.length=d.size)(f:∀ u∈vs,u.oneCell'=true)
  {g o T:Nat}{cur:Array Value}(i:m.w.heap[g]?=some (.cells cur T (0,0)))(b:o+vs.length<=cur.size) :
  (Instr.storeAt t (.pointer (some ⟨g,o,none⟩)) v).run P m.w = .ok () (m.w.setRow g (cur.toList.take o++vs++cur.toList.drop (o+vs.length)).toArray):=by have a:=run_storeCells_at P g o T vs 0 cur m.w i (by simpa using b) f;simp only[Vz]at a;simp[Instr.storeAt,Instr.sureAddr,storeVar,c,QeH h,e,a]
def setCells{α:Type}(x:List α)(j:Nat):List α->List α
 | []=>x
 | c :: cs=>setCells (x.set j c) (j+1) cs
theorem JY{α:Type}(cs y:List α)(j:Nat):(setCells y j cs).length=y.length:=by
 induction cs generalizing y j with
 | nil=>rfl
 | cons c cs ih=>simp[setCells,ih]
theorem QbA{α:Type}(cs y:List α)(j:Nat)(h:j+cs.length<=y.length)(p:Nat):(setCells y j cs)[p]?=if p<j then y[p]? else if p<j+cs.length then cs[p-j]? else y[p]?:=by
 induction cs generalizing y j with
 | nil=>simp only[setCells,VN,Vz];split <;> rfl
 | cons c cs ih =>
  simp only[W3]at h ⊢;rw[setCells,ih _ _ (by simp;omega)];by_cases a:p<j
  ·rw[if_pos Oo,if_pos a,WK Oo]
  ·rw[if_neg a];by_cases d:p=j
   ·subst d;rw[if_pos Oo,if_pos Oo,WN Oo,V1];rfl
   ·rw[if_neg Oo];by_cases b:p<j+1+cs.length
    ·rw[if_pos b,if_pos Oo,show p-j=(p-(j+1))+1 by omega,V7]
    ·rw[if_neg b,if_neg Oo,WK Oo]
theorem Row.set{m':Mem}{a:Ob}{g cap:Nat}(r:Row m a g cap){cur:Array Value}{T:Nat}(v:m.w.heap[g]?=some (.cells cur T (0,0)))(C:Ext m m'){i j:Nat}{y cs:List DV}(w:a.els[i]?=some y)(K:j+cs.length<=y.length)
  {vs:List Value}(P:vs.length=cs.length)(L:∀ (k:Nat) u c,vs[k]?=some u->cs[k]?=some c->Qhl m' a.arr u c)
  (M:m'.w.heap[g]?=some (.cells (cur.toList.take (i*a.esz+j)++vs++cur.toList.drop (i*a.esz+j+vs.length)).toArray T (0,0))) :
  i*a.esz+j+vs.length<=cur.size/\Row m' { a with els:=a.els.set i (setCells y j cs) } g cap:=by
 obtain ⟨E,N,o,O,A⟩:=r.cells;rw[v]at o;injection o with o;injection o with o;subst o;have D:i<a.els.length:=by
  rcases Ws i a.els.length with h' | h'
  ·exact h'
  ·rw[Wi h']at w;cases w
 have z:=r.sz i y w;have n:i*a.esz+j+vs.length<=cur.size:=by have:(i+1)*a.esz<=cap*a.esz:=Wy _ (by have:=r.len;omega);rw[Vm]at this;omega
 refine ⟨n,⟨⟨_,T,M,?_,?_⟩,by simpa using r.len,r.max,r.pos,?_⟩⟩
 ·simp only[Vq,We,Wf,Wv,Wt];omega
 ·dsimp only;intro f x h d b l;have s:∀ p,(cur.toList.take (i*a.esz+j)++vs++cur.toList.drop (i*a.esz+j+vs.length)).toArray[p]? =
    if p<i*a.esz+j then cur[p]? else if p<i*a.esz+j+vs.length then vs[p-(i*a.esz+j)]? else cur[p]?:=λp=>by
   have:=QeJ cur.toList vs (i*a.esz+j) (by simpa using n) p
   simpa using this
  rw[s];by_cases e:f=i
  ·subst e;rw[WN D]at b;injection b with b;subst b;rw[QbA cs y j K h]at l;by_cases F:h < j
   ·rw[if_pos F]at l;rw[if_pos Oo];obtain ⟨u,q,t⟩:=A f y h d w l;exact ⟨u,q,t.ext C⟩
   ·rw[if_neg F]at l;rw[if_neg Oo];by_cases G:h < j+cs.length
    ·rw[if_pos G]at l;rw[if_pos Oo];have H:f * a.esz+h - (f * a.esz+j)=h - j:=by omega
     rw[H];exact ⟨vs[h - j]' Oo,Wa Oo,L (h - j) _ d (Wa Oo) l⟩
    ·rw[if_neg G]at l;rw[if_neg Oo];obtain ⟨u,q,t⟩:=A f y h d w l;exact ⟨u,q,t.ext C⟩
  ·rw[WK (Ne.symm e)]at b;obtain ⟨u,q,t⟩:=A f x h d b l;have I:=r.sz f x b;have J:h < a.esz:=by
    rcases Ws h x.length with h' | h'
    ·omega
    ·rw[Wi h']at l;cases l
   refine ⟨u,?_,t.ext C⟩;rcases Yc e with B | hgt
   ·have:(f+1)*a.esz<=i*a.esz:=Wy _ B;rw[Vm]at this;rw[if_pos Oo];exact q
   ·have:(i+1)*a.esz<=f * a.esz:=Wy _ hgt;rw[Vm]at this;rw[if_neg Oo,if_neg Oo];exact q
 ·dsimp only;intro f x b;by_cases e:f=i
  ·subst e;rw[WN D]at b;injection b with b;subst b;rw[JY,z]
  ·rw[WK (Ne.symm e)]at b;exact r.sz f x b
theorem Row.block_lt{b:Ob}{g cap:Nat}(r:Row m b g cap):g<m.w.heap.size:=by obtain ⟨a,T,h,_⟩:=r.cells;exact (VL.1 h).1
theorem Qci{no:Nat->Prop}{a:Ob}{g cap off len:Nat}(r:Row m a g cap)(C:a.arr=true)(q:¬ no g)(f:∀ k,no k->m.no k)(E:off+len<=a.els.length) :
  PRep m.w no (.slice (some ⟨g,off*a.esz,none⟩) len (cap-off)) (.sl ((a.els.drop off).take len)):=by
 have s:=r.len;have t:=r.max;have n:((a.els.drop off).take len).length=len:=by simp;omega
 by_cases A:len=0
 ·subst A;rw[Y3];exact .nil _ _ Oo
 ·obtain ⟨e,T,y,D,v⟩:=r.cells;have b:∀ (i:Nat) x,((a.els.drop off).take len)[i]?=some x->a.els[off+i]?=some x:=λi x c=>by
   rw[WM]at c;split at c
   ·rwa [WW]at c
   ·cases c
  have o:=PRep.sl (w:=m.w) (no:=no) g (off*a.esz) (cap-off) a.esz ((a.els.drop off).take len) (λi j=>e.getD ((off+i)*a.esz+j) undef) r.pos Oo Oo Oo q r.block_lt
   (λi x c=>r.sz _ x (b i x c))
   (λi x j d c p=>by
    obtain ⟨u,l,_⟩:=v _ x j d (b i x c) p
    rw[cell_of_row m.w g _ e T (0,0) y,show off*a.esz+i*a.esz+j=(off+i)*a.esz+j by rw[Vk],l,Vv,l]
    rfl)
   (λi x j d c p=>by
    obtain ⟨u,l,z⟩:=v _ x j d (b i x c) p
    rw[Vv,l]
    have:=z.2
    rw[C]at this
    exact PRep.ext (Wl _) (λk _ B=>⟨rfl,λh=>B (f k h)⟩) this)
  rwa [n]at o
def undp:DV->DV
 | .dp _ l=>.sl l
 | d=>d
def dpB:DV->Bool
 | .lit _=>true
 | .sl _=>true
 | .dp _ _=>true
 | _=>false
theorem prep_of_deep{no:Nat->Prop}{c:Ob}{E:Nat->Prop}{g cap:Nat}(r:Row m c g cap)(Y:Deep m E c g)(X:c.arr=false)(J:¬ no g)(K:∀ b,E b->¬ no b)(p:∀ k,no k->m.no k)(o:∀ x∈c.els,∀ d∈x,dpB d=true) :
  PRep m.w no (.slice (some ⟨g,0,none⟩) c.els.length cap) (.sl (c.els.map (·.map undp))):=by
 have s:=r.len;have L:=r.max;by_cases O:c.els=[]
 ·rw[O];exact .nil _ _ Oo
 ·obtain ⟨q,T,M,Z,N⟩:=r.cells;obtain ⟨B,R,d2⟩:=Y;have t:0<c.els.length:=List.length_pos_iff.2 O;have y:∀ (i:Nat) x (j:Nat) d,(c.els.map (·.map undp))[i]?=some x->x[j]?=some d->∃ f n,c.els[i]?=some f/\f[j]?=some n/\d=undp n:=λi x j d a o=>by
   rw[Wh]at a;cases hq:c.els[i]? with
   | none=>rw[hq]at a;cases a
   | some f =>
    rw[hq]at a;injection a with a;subst a;rw[Wh]at o;cases hq2:f[j]? with
    | none=>rw[hq2]at o;cases o
    | some n=>rw[hq2]at o;injection o with o;exact ⟨f,n,rfl,hq2,o.symm⟩
  have H:=PRep.sl (w:=m.w) (no:=no) g 0 cap c.esz (c.els.map (·.map undp)) (λi j=>q.getD (i*c.esz+j) undef) r.pos (by simpa using t) (by simpa using s) Oo J r.block_lt
   (λi x a=>by
    rw[Wh]at a
    cases hq:c.els[i]? with
    | none=>rw[hq]at a;cases a
    | some f=>rw[hq]at a;injection a with a;subst a;rw[Wb];exact r.sz i f hq)
   (λi x j d a o=>by
    obtain ⟨f,n,A,C,_⟩:=y i x j d a o
    obtain ⟨u,D,_⟩:=N i f j n A C
    rw[cell_of_row m.w g _ q T (0,0) M,W0,D,Vv,D]
    rfl)
   (λi x j d a I=>by
    obtain ⟨f,n,A,C,rfl⟩:=y i x j d a I
    obtain ⟨u,D,S⟩:=N i f j n A C
    rw[Vv,D,WG]
    have e:=S.2
    rw[X]at e
    have P:∀ {v d},PRep m.w m.no v d->PRep m.w no v d:=λh=>PRep.ext (Wl _) (λk _ W=>⟨rfl,λh=>W (p k h)⟩) h
    have Q:=o f (Wq A) n (Wq C)
    have e:Rep m u n:=e
    cases n with
    | lit v=>rw[e.lit_inv];exact .lit v e.lit_one
    | sl xs=>exact P e.sl_inv
    | dp z l =>
     obtain ⟨u',F,G⟩:=R i f j z l A C
     rw[cell_of_row m.w g _ q T (0,0) M,D]at F
     injection F with F
     subst F
     cases hB:B i j with
     | none =>
      rw[hB]at G
      obtain ⟨rfl,rfl,_⟩:=G
      exact .nil _ _ (WO _)
     | some b =>
      rw[hB]at G
      obtain ⟨U,cp,rfl,V⟩:=G
      have:=Qci (off:=0) (len:=l.length) V rfl (K b U) p Os
      simpa [undp] using this
    | _=>cases Q)
  rwa [Wb]at H
end
def cellC:Value->DV
 | .agg _=>.any
 | .tuple _=>.any
 | v=>.lit v
def constD:Value->DV
 | .agg cs=>.agg (cs.toList.map cellC)
 | .tuple cs=>.tup (cs.toList.map cellC)
 | v=>.lit v
def opd(env:Env):Operand->DV
 | .tmp t=>env.get t
 | .const v=>constD v
 | .func f=>.lit (.func (.func f) #[] #[])
 | .global _=>.any
structure Out where
 d:DV
 us:List (Nat×Option Ob)
 rs:List Nat
 n:Nat
def Upd(m:Mem)(p:Nat×Option Ob):Prop:=match p.2 with
 | some ob=>QH m p.1 ob
 | none=>m.σ p.1=some none
def Ran(P:Program)(F:Fm)(o:Oper)(a:Act)(m:Mem)(d:DV)(us:List (Nat×Option Ob)):Prop := ∃ v m',((execOp a.eval o).run P m.w = .ok (.value v) m'.w\/((execOp a.eval o).run P m.w = .ok .skip m'.w/\v=undef)) /\ Inv F m'/\Loc (us.map (·.1)) m m'/\Rep m' v d/\∀ p∈us,Upd m' p
def OpsRep(m:Mem)(a:Act)(env:Env)(o:Oper):Prop:=∀ x∈o.op.operands,Rep m (a.eval x) (opd env x)
def Fresh(m:Mem)(nxt n:Nat):Prop:=∀ s,nxt<=s->s<nxt+n->m.σ s=none
def Qv(P:Program)(o:Oper)(env:Env)(sto:Sto)(nxt:Nat)(out:Out):Prop := ∀ (F:Fm) (m:Mem) (a:Act),Inv F m->OpsRep m a env o->QZ m sto out.rs->Fresh m nxt out.n -> ∀ (K:Act->World->Prop) (Q:Exit->Act->World->Prop),(∀ v m',Inv F m'->Loc (out.us.map (·.1)) m m'->Rep m' v out.d->(∀ p∈out.us,Upd m' p)->K (a.put o.dst v) m'.w)->Oper.wp P o a m.w K Q
theorem Ran.wp{P:Program}{F:Fm}{o:Oper}{a:Act}{m:Mem}{d:DV}{us:List (Nat×Option Ob)}(h:Ran P F o a m d us){K:Act->World->Prop}{Q:Exit->Act->World->Prop}
  (i:∀ v m',Inv F m'->Loc (us.map (·.1)) m m'->Rep m' v d->(∀ p∈us,Upd m' p)->K (a.put o.dst v) m'.w):Oper.wp P o a m.w K Q:=by
 obtain ⟨v,m',b,c,e,f,g⟩:=h;have:=i v m' c e f g;unfold Oper.wp;rcases b with b | ⟨b,rfl⟩
 ·rw[b];exact this
 ·rw[b];exact this
theorem Qv.ran{P:Program}{o:Oper}{env:Env}{sto:Sto}{nxt:Nat}{out:Out}
  (h:∀ (F:Fm) (m:Mem) (a:Act),Inv F m->OpsRep m a env o->QZ m sto out.rs->Fresh m nxt out.n->Ran P F o a m out.d out.us):Qv P o env sto nxt out :=
 λF m a b c d e _ _ f=>(h F m a b c d e).wp f
section
variable{P:Program}{F:Fm}{m:Mem}{a:Act}{env:Env}{sto:Sto}{nxt:Nat}{d:DV}{us:List (Nat×Option Ob)}{o:Oper}
theorem Ran.val(c:Inv F m){v:Value}(h:(execOp a.eval o).run P m.w = .ok (.value v) m.w)(e:Rep m v d):Ran P F o a m d [] :=
 ⟨v,m,.inl h,c,Loc.refl _ _,e,λp b=>by cases b⟩
theorem constD_rep(v:Value):Rep m v (constD v):=by
 have c:∀ a:Array Value,∀ (i:Nat) v d,a.toList[i]?=some v->(a.toList.map cellC)[i]?=some d->Rep m v d:=λa i v d e b=>by rw[Wh,e]at b;injection b with b;subst b;cases v <;> first | exact .any _ | exact .pure (.lit _ rfl)
 unfold constD;split
 ·rename_i a;have:=Rep.agg (m:=m) (vs:=a.toList) (xs:=a.toList.map cellC) Os (c a);simpa using this
 ·rename_i a;have:=Rep.tup (m:=m) (vs:=a.toList) (xs:=a.toList.map cellC) Os (c a);simpa using this
 ·cases v <;> first | exact .pure (.lit _ rfl) | (exfalso;rename_i h1 h2;first | exact h1 _ rfl | exact h2 _ rfl)
theorem opd_rep{x:Operand}(h:∀ t,x = .tmp t->Rep m (a.tmps.getD t undef) (env.get t)):Rep m (a.eval x) (opd env x):=by
 cases x with
 | tmp t=>exact h t rfl
 | const v=>exact constD_rep v
 | global g=>exact .any _
 | func f=>exact .pure (.lit _ rfl)
theorem r_move{x:Operand}(b:o.op = .move x):Qv P o env sto nxt ⟨opd env x,[],[],0⟩:=.ran λF m a c d _ _ =>
 Ran.val c (v:=a.eval x) (by simp[execOp,b]) (d x (by simp[b,Op.operands]))
theorem r_assign{x:Operand}(b:o.op = .assign x):Qv P o env sto nxt ⟨opd env x,[],[],0⟩:=.ran λF m a c d _ _ =>
 Ran.val c (v:=a.eval x) (by simp[execOp,b]) (d x (by simp[b,Op.operands]))
theorem r_pick{c x y:Operand}{t:Bool}(b:o.op = .pick c x y)(i:opd env c = .lit (.bool t)):Qv P o env sto nxt ⟨if t then opd env x else opd env y,[],[],0⟩:=.ran λF m a h d _ _=>by
 have e:=d c (by simp[b,Op.operands]);rw[i]at e;have f:=d x (by simp[b,Op.operands]);have g:=d y (by simp[b,Op.operands]);refine Ran.val h (v:=if t then a.eval x else a.eval y) (by simp[execOp,b,e.lit_inv,asBool]) ?_;cases t
 ·exact g
 ·exact f
theorem r_extract{x:Operand}{i:Nat}{xs:List DV}{d:DV}(g:o.op = .extract x i)(n:opd env x = .tup xs)(c:xs[i]?=some d):Qv P o env sto nxt ⟨d,[],[],0⟩:=.ran λF m a k l _ _=>by
 have e:=l x (by simp[g,Op.operands]);rw[n]at e;obtain ⟨f,h,p,j⟩:=e.tup_inv;have b:i<f.length:=by
  rcases Ws i xs.length with h' | h'
  ·omega
  ·rw[Wi h']at c;cases c
 refine Ran.val k (v:=f[i]) ?_ (j i _ d (Wa b) c);simp[execOp,g,h,Instr.extract,b]
def Xo(op:BinOp)(k:IntKind)(a b:Int):Option Value :=
 match op with
 | .add=>some (.int k (k.wrap (a+b)))
 | .sub=>some (.int k (k.wrap (a-b)))
 | .mul=>some (.int k (k.wrap (a*b)))
 | .quo=>if b=0 then none else some (.int k (k.wrap (a.tdiv b)))
 | .rem=>if b=0 then none else some (.int k (a.tmod b))
 | .and=>some (.int k (k.wrap (BitVec.ofInt k.bits a &&& BitVec.ofInt k.bits b).toNat))
 | .or=>some (.int k (k.wrap (BitVec.ofInt k.bits a ||| BitVec.ofInt k.bits b).toNat))
 | .xor=>some (.int k (k.wrap (BitVec.ofInt k.bits a ^^^ BitVec.ofInt k.bits b).toNat))
 | .andNot=>some (.int k (k.wrap (BitVec.ofInt k.bits a &&& ~~~BitVec.ofInt k.bits b).toNat))
 | .eql=>some (.bool (a == b))
 | .neq=>some (.bool (a != b))
 | .lss=>some (.bool (decide (a<b)))
 | .leq=>some (.bool (decide (a<=b)))
 | .gtr=>some (.bool (decide (b<a)))
 | .geq=>some (.bool (decide (b<=a)))
 | _=>none
def Xi(op:BinOp)(k:IntKind)(a b:Int):Option Value :=
 if b<0 then none else
 match op with
 | .shl=>some (.int k (k.wrap (a*2^min b.toNat k.bits)))
 | .shr=>some (.int k (a.fdiv (2^min b.toNat k.bits)))
 | _=>none
theorem int_run{b:BinOp}{k:IntKind}{x y:Int}{r:Value}(h:Xo b k x y=some r)(t:Nat)(p q:Operand)(w:World) :
  (do eqGuard b t p q (.int k x) (.int k y);binOp b t (.int k x) (.int k y):Sem Value).run P w = .ok r w:=by
 unfold Xo at h;cases b <;> dsimp only at h
 case quo =>
  by_cases a:y=0
  ·rw[if_pos a]at h;cases h
  ·rw[if_neg a]at h;injection h with h;subst h;simp[eqGuard,binOp,Op.intDiv,a]
 case rem =>
  by_cases a:y=0
  ·rw[if_pos a]at h;cases h
  ·rw[if_neg a]at h;injection h with h;subst h;simp[eqGuard,binOp,Op.intDiv,a]
 all_goals first
  | (cases h;done)
  | (injection h with h;subst h;simp[eqGuard,binOp,Op.intArith,Op.intBits,Op.intCmp])
theorem shift_run{a:BinOp}{k j:IntKind}{x y:Int}{r:Value}(h:Xi a k x y=some r)(t:Nat)(p q:Operand)(w:World) :
  (do eqGuard a t p q (.int k x) (.int j y);binOp a t (.int k x) (.int j y):Sem Value).run P w = .ok r w:=by
 unfold Xi at h;by_cases b:y<0
 ·rw[if_pos b]at h;cases h
 ·rw[if_neg b]at h;cases a <;> dsimp only at h <;> first
   | (cases h;done)
   | (injection h with h;subst h;simp[eqGuard,binOp,Op.shift,b])
theorem int_one{a:BinOp}{k:IntKind}{x y:Int}{r:Value}(h:Xo a k x y=some r):r.oneCell'=true:=by
 unfold Xo at h;cases a <;> dsimp only at h <;> first
  | (cases h;done)
  | (injection h with h;subst h;rfl)
  | (split at h <;> first | (cases h;done) | (injection h with h;subst h;rfl))
theorem shift_one{a:BinOp}{k:IntKind}{x y:Int}{r:Value}(h:Xi a k x y=some r):r.oneCell'=true:=by
 unfold Xi at h;split at h
 ·cases h
 ·cases a <;> dsimp only at h <;> first
   | (cases h;done)
   | (injection h with h;subst h;rfl)
theorem Qcg{b:BinOp}{t:Nat}{x y:Operand}{f:Nat}{u v r:Value}(g:r.oneCell'=true)(d:o.op = .binOp b t x y f)(c:Inv F m)(i:a.eval x=u)(e:a.eval y=v)
  (h:(do eqGuard b t x y u v;binOp b t u v:Sem Value).run P m.w = .ok r m.w):Ran P F o a m (.lit r) []:=by subst i;subst e;refine Ran.val c (v:=r) ?_ (.pure (.lit _ g));simp only[execOp,d];rw[Sem.run_bind,h];rfl
theorem Qfr{f:BinOp}{t:Nat}{x y:Operand}{j:Nat}{k:IntKind}{p q:Int}{r:Value}(b:o.op = .binOp f t x y j)(l:opd env x = .lit (.int k p))(i:opd env y = .lit (.int k q))(g:Xo f k p q=some r) :
  Qv P o env sto nxt ⟨.lit r,[],[],0⟩:=.ran λF m a h e _ _=>by
 have c:=e x (by simp[b,Op.operands])
 have d:=e y (by simp[b,Op.operands])
 rw[l]at c
 rw[i]at d
 exact Qcg (int_one g) b h c.lit_inv d.lit_inv (int_run g _ _ _ _)
theorem r_shift{f:BinOp}{t:Nat}{x y:Operand}{l:Nat}{k j:IntKind}{p q:Int}{r:Value}(b:o.op = .binOp f t x y l)(n:opd env x = .lit (.int k p))(i:opd env y = .lit (.int j q))(g:Xi f k p q=some r) :
  Qv P o env sto nxt ⟨.lit r,[],[],0⟩:=.ran λF m a h e _ _=>by
 have c:=e x (by simp[b,Op.operands])
 have d:=e y (by simp[b,Op.operands])
 rw[n]at c
 rw[i]at d
 exact Qcg (shift_one g) b h c.lit_inv d.lit_inv (shift_run g _ _ _ _)
theorem QbY{n:Int}(h:-9223372036854775808<=n/\n<=9223372036854775807):IntKind.i64.wrap n=n:=by rw[IntKind.wrap_i64];omega
theorem Qba{n:Int}(h:0<=n/\n<=18446744073709551615):IntKind.u64.wrap n=n:=by have:IntKind.u64.wrap n=n%18446744073709551616:=rfl;rw[this];omega
theorem QcD(n:Nat){t:Nat}(a:P.underlying t=some .bool)(x y:Bool)(w:World):(Op.equalIn (n+1) t (.bool x) (.bool y)).run P w = .ok (x == y) w:=by simp[Op.equalIn,run_underlying a]
theorem r_eqB{t:Nat}{x y:Operand}{k:Nat}{p q:Bool}{g:TyD}(b:o.op = .binOp .eql t x y k)(l:QB P t g)(i:g.k = .bool)(n:opd env x = .lit (.bool p))(j:opd env y = .lit (.bool q)) :
  Qv P o env sto nxt ⟨.lit (.bool (p == q)),[],[],0⟩:=.ran λF m a h f _ _=>by
 have c:=f x (by simp[b,Op.operands])
 have d:=f y (by simp[b,Op.operands])
 rw[n]at c
 rw[j]at d
 have e:=l.kind
 rw[i]at e
 exact Qcg rfl b h c.lit_inv d.lit_inv (by simp[eqGuard,binOp,Op.equal,Op.maxDepth,QcD 9999 e])
theorem r_neB{t:Nat}{x y:Operand}{k:Nat}{p q:Bool}{g:TyD}(b:o.op = .binOp .neq t x y k)(l:QB P t g)(i:g.k = .bool)(n:opd env x = .lit (.bool p))(j:opd env y = .lit (.bool q)) :
  Qv P o env sto nxt ⟨.lit (.bool (p != q)),[],[],0⟩:=.ran λF m a h f _ _=>by
 have c:=f x (by simp[b,Op.operands])
 have d:=f y (by simp[b,Op.operands])
 rw[n]at c
 rw[j]at d
 have e:=l.kind
 rw[i]at e
 refine Qcg rfl b h c.lit_inv d.lit_inv ?_
 simp[eqGuard,binOp,Op.equal,Op.maxDepth,QcD 9999 e]
 cases p <;> cases q <;> rfl
theorem r_not{t:Nat}{x:Operand}{p:Bool}(c:o.op = .unOp .not t x)(f:opd env x = .lit (.bool p)):Qv P o env sto nxt ⟨.lit (.bool (!p)),[],[],0⟩:=.ran λF m a d e _ _=>by have b:=e x (by simp[c,Op.operands]);rw[f]at b;exact Ran.val d (v:=.bool (!p)) (by simp[execOp,c,b.lit_inv,Op.unary]) (.pure (.lit _ rfl))
theorem r_neg{t:Nat}{x:Operand}{k:IntKind}{p:Int}(c:o.op = .unOp .neg t x)(f:opd env x = .lit (.int k p)):Qv P o env sto nxt ⟨.lit (.int k (k.wrap (0-p))),[],[],0⟩:=.ran λF m a d e _ _=>by have b:=e x (by simp[c,Op.operands]);rw[f]at b;exact Ran.val d (v:=.int k (k.wrap (0-p))) (by simp[execOp,c,b.lit_inv,Op.unary,Op.intArith]) (.pure (.lit _ rfl))
theorem r_xor{t:Nat}{x:Operand}{k:IntKind}{p:Int}(c:o.op = .unOp .xor t x)(f:opd env x = .lit (.int k p)) :
  Qv P o env sto nxt ⟨.lit (.int k (k.wrap (BitVec.ofInt k.bits (if k.signed then -1 else k.max) ^^^ BitVec.ofInt k.bits p).toNat)),[],[],0⟩:=.ran λF m a d e _ _=>by
 have b:=e x (by simp[c,Op.operands])
 rw[f]at b
 exact Ran.val d (v:=.int k (k.wrap (BitVec.ofInt k.bits (if k.signed then -1 else k.max) ^^^ BitVec.ofInt k.bits p).toNat)) (by simp[execOp,c,b.lit_inv,Op.unary,Op.intBits]) (.pure (.lit _ rfl))
theorem r_conv{c d:Nat}{x:Operand}{i e:TyD}{k q:IntKind}{n:Int}(h:o.op = .convert c d x)(t:QB P c i)(r:QB P d e)(s:e.k = .int k)(w:opd env x = .lit (.int q n)) :
  Qv P o env sto nxt ⟨.lit (.int k (k.wrap n)),[],[],0⟩:=.ran λF m a l p _ _=>by
 have b:=p x (by simp[h,Op.operands])
 rw[w]at b
 have g:=r.kind
 rw[s]at g
 dsimp only at g
 obtain ⟨u,hu⟩:∃ u,P.underlying c=some u:=by
  have b:=t.kind;obtain ⟨j,_,_,_⟩:=i;cases j <;> dsimp only at b
  case struct=>obtain ⟨f,b,_⟩:=b;exact ⟨_,b⟩
  case other=>obtain ⟨f,b,_⟩:=b;exact ⟨_,b⟩
  all_goals exact ⟨_,b⟩
 refine Ran.val l (v:=.int k (k.wrap n)) ?_ (.pure (.lit _ rfl))
 cases u <;> simp[execOp,h,b.lit_inv,convert,run_underlying hu,run_underlying g,Conv.intToInt]
theorem r_loadP{t:Nat}{p:Operand}{f:TyD}{cs:List DV}{d:DV}(e:o.op = .load t p)(s:QB P t f)(r:opd env p = .pp cs)(q:ldD f cs=some d):Qv P o env sto nxt ⟨d,[],[],0⟩:=.ran λF m a l n _ _=>by have c:=n p (by simp[e,Op.operands]);rw[r]at c;obtain ⟨b,g,h,i⟩:=c.pp_cells;obtain ⟨v,j,k⟩:=load_ok (P:=P) s i q;exact Ran.val l (v:=v) (by simp[execOp,e,h,j]) k
theorem r_load{t:Nat}{p:Operand}{h:TyD}{s i j:Nat}{b:Ob}{x:List DV}{d:DV}(f:o.op = .load t p)(C:QB P t h)(B:opd env p = .ptr s i j)(D:sto.get s=some b)(E:b.els[i]?=some x)(A:ldD h (x.drop j)=some d) :
  Qv P o env sto nxt ⟨d,[],[s],0⟩:=.ran λF m a w y z _=>by
 have c:=y p (by simp[f,Op.operands])
 rw[B]at c
 obtain ⟨e,g,l,_,_,_,_,n,q⟩:=Qch c (z s Os b D)
 obtain ⟨v,r,u⟩:=load_ok (P:=P) C ((q.cellsAt E).drop (k:=j)) A
 exact Ran.val w (v:=v) (by simp[execOp,f,n,r]) u
theorem r_len{x:Operand}{t:Nat}{j:TyD}{e:Nat}{n:Nat}(i:o.op = .call ⟨.builtin .len,#[x],#[t]⟩)(r:QB P t j)(q:j.k = .slice e)
  (b:(∃ xs,opd env x = .sl xs/\xs.length=n)\/(opd env x = .lit (.slice none 0 0)/\n=0)):Qv P o env sto nxt ⟨.lit (.int .i64 n),[],[],0⟩:=.ran λF m a l p _ _=>by
 have d:=p x (by simp[i,Op.operands,Call.operands])
 have g:=r.kind
 rw[q]at g
 obtain ⟨f,c,hv⟩:∃ f c,a.eval x = .slice f n c:=by
  rcases b with ⟨xs,b,rfl⟩ | ⟨b,rfl⟩
  ·rw[b]at d;obtain ⟨f,k,h,_⟩:=d.sl_inv.sl_inv;exact ⟨_,_,h⟩
  ·rw[b]at d;exact ⟨_,_,d.lit_inv⟩
 exact Ran.val l (v:=.int .i64 n) (by simp[execOp,i,resolve,invoke,builtin,hv,Builtin.len_,run_underlying g,goInt]) (.pure (.lit _ rfl))
theorem r_lenS{x:Operand}{t:Nat}{a:TyD}{e:Nat}{xs:List (List DV)}{n:Nat}(c:o.op = .call ⟨.builtin .len,#[x],#[t]⟩)(d:QB P t a)(b:a.k = .slice e)(f:opd env x = .sl xs)(g:xs.length=n):Qv P o env sto nxt ⟨.lit (.int .i64 n),[],[],0⟩ :=
 r_len c d b (.inl ⟨xs,f,g⟩)
theorem r_lenN{x:Operand}{t:Nat}{a:TyD}{e:Nat}(c:o.op = .call ⟨.builtin .len,#[x],#[t]⟩)(d:QB P t a)(b:a.k = .slice e)(f:opd env x = .lit (.slice none 0 0)):Qv P o env sto nxt ⟨.lit (.int .i64 (0:Nat)),[],[],0⟩ :=
 r_len c d b (.inr ⟨f,rfl⟩)
theorem r_lenO{x:Operand}{t:Nat}{i:TyD}{e:Nat}{s off len:Nat}{j:Ob}(f:o.op = .call ⟨.builtin .len,#[x],#[t]⟩)(r:QB P t i)(q:i.k = .slice e)(w:opd env x = .own s off len)(u:sto.get s=some j) :
  Qv P o env sto nxt ⟨.lit (.int .i64 len),[],[s],0⟩:=.ran λF m a l n p _=>by
 have b:=n x (by simp[f,Op.operands,Call.operands])
 have d:=r.kind
 rw[q]at d
 rw[w]at b
 obtain ⟨ad,c,hv⟩:∃ ad c,a.eval x = .slice ad len c:=by obtain ⟨_,_,_,_,h⟩:=Jm b (p s Os j u);rcases h with ⟨g,k,_,h,_⟩ | ⟨_,h,_,rfl,_⟩ <;> exact ⟨_,_,h⟩
 exact Ran.val l (v:=.int .i64 len) (by simp[execOp,f,resolve,invoke,builtin,hv,Builtin.len_,run_underlying d,goInt]) (.pure (.lit _ rfl))
theorem r_nilP{x:Operand}{xs:List DV}(d:o.op = .nilCheck x)(j:opd env x = .pp xs):Qv P o env sto nxt ⟨.pp xs,[],[],0⟩:=.ran λF m a h i _ _=>by have c:=i x (by simp[d,Op.operands]);rw[j]at c;obtain ⟨b,e,f,g,_⟩:=c.pp_inv;exact Ran.val h (v:=a.eval x) (by simp[execOp,d,g]) c
theorem r_nil{x:Operand}{s i j:Nat}{c:Ob}(d:o.op = .nilCheck x)(q:opd env x = .ptr s i j)(p:sto.get s=some c):Qv P o env sto nxt ⟨.ptr s i j,[],[s],0⟩:=.ran λF m a k l n _=>by have b:=l x (by simp[d,Op.operands]);rw[q]at b;obtain ⟨e,g,f,_,_,_,_,h,r⟩:=Qch b (n s Os c p);exact Ran.val k (v:=a.eval x) (by simp[execOp,d,h]) b
theorem r_nilF{x:Operand}{f:Nat}{xs:List DV}(c:o.op = .nilCheck x)(h:opd env x = .fn f xs):Qv P o env sto nxt ⟨.fn f xs,[],[],0⟩:=.ran λF m a e g _ _=>by have b:=g x (by simp[c,Op.operands]);rw[h]at b;obtain ⟨i,d,_⟩:=b.fn_inv;exact Ran.val e (v:=a.eval x) (by simp[execOp,c,d]) b
theorem r_nilL{x:Operand}{f:Nat}{p q:Array Value}(c:o.op = .nilCheck x)(g:opd env x = .lit (.func (.func f) p q)):Qv P o env sto nxt ⟨.lit (.func (.func f) p q),[],[],0⟩:=.ran λF m a d e _ _=>by have b:=e x (by simp[c,Op.operands]);rw[g]at b;exact Ran.val d (v:=a.eval x) (by simp[execOp,c,b.lit_inv]) b
end
section
variable{P:Program}{F:Fm}{m:Mem}{a:Act}{env:Env}{sto:Sto}{nxt:Nat}{o:Oper}
theorem QbM{t:Nat}{b:TyD}(h:QB P t b):∃ i z,P.info? t=some i/\i.size=b.size/\i.bytes=b.bytes/\i.zero=some z/\z.cells.toList.map DV.lit=b.zero/\(∀ u∈z.cells,u.oneCell'=true)/\(if b.agg then ∃ cs,z = .agg cs else z.oneCell'=true):=by
 obtain ⟨z,c,d,e,f⟩:=h.zero;have a:=h.info;cases hh:P.info? t with
 | none=>rw[hh]at a;cases a
 | some i =>rw[hh]at a c;simp only[Wx,Wz,Ul]at a c;exact ⟨i,z,rfl,a.1,a.2,c,d,λu g=>WZ.1 e u (by simpa using g),f⟩
theorem ty_field{t:Nat}{e:TyD}{fs:List (Nat×Nat)}(h:QB P t e)(n:e.k = .struct fs){f off a:Nat}(b:fs[f]?=some (off,a)) :
  ∃ fields fl,P.underlying t=some (.struct fields)/\fields[f]?=some fl/\fl.offset=off/\∀ w:World,(sizeOf fl.type).run P w = .ok a w:=by
 have c:=h.kind;rw[n]at c;obtain ⟨fields,k,l,m⟩:=c;rw[<- l,Wh]at b;cases hh:fields.toList[f]? with
 | none=>rw[hh]at b;cases b
 | some fl =>
  rw[hh]at b;simp only[Wx,Wz,Ul]at b;have g:fields[f]?=some fl:=by simpa using hh
  refine ⟨fields,fl,k,g,b.1,λw=>?_⟩;have j:(P.info? fl.type).isSome=true:=WZ.1 m fl (Wq hh);obtain ⟨i,d⟩:=VQ.1 j;have:i.size=a:=by have:=b.2;unfold Program.cellsOf at this;rw[d]at this;exact this
  simp[sizeOf,typeInfo,d,this]
theorem Qeb{t f:Nat}{p:Operand}(s:o.op = .fieldAddr t p f)(u:Inv F m){e:TyD}{fs:List (Nat×Nat)}(x:QB P t e)(n:e.k = .struct fs){off b:Nat}(r:fs[f]?=some (off,b))(y:b≠0)
  {g q:Nat}(l:a.eval p = .pointer (some ⟨g,q,none⟩)){d:DV}(w:Rep m (.pointer (some ⟨g,q+off,none⟩)) d):Ran P F o a m d []:=by obtain ⟨c,z,h,i,j,k⟩:=ty_field x n r;refine Ran.val u (v:=.pointer (some ⟨g,q+off,none⟩)) ?_ w;simp[execOp,s,l,Instr.fieldAt,run_underlying h,i,Instr.sureAddr,fieldPlace,k,y,j,add_lit]
theorem r_faP{t f:Nat}{p:Operand}{g:TyD}{fs:List (Nat×Nat)}{off c:Nat}{xs:List DV}(e:o.op = .fieldAddr t p f)(s:QB P t g)(n:g.k = .struct fs)(r:fs[f]?=some (off,c))(u:c≠0)(l:opd env p = .pp xs) :
  Qv P o env sto nxt ⟨.pp (xs.drop off),[],[],0⟩:=.ran λF m a j k _ _=>by
 have d:=k p (by simp[e,Op.operands])
 rw[l]at d
 obtain ⟨b,q,h,i⟩:=d.pp_drop off
 exact Qeb e j s n r u h i
theorem r_fa{t f:Nat}{p:Operand}{h:TyD}{fs:List (Nat×Nat)}{off b:Nat}{s i j:Nat}{k:Ob}(d:o.op = .fieldAddr t p f)(B:QB P t h)(A:h.k = .struct fs)(z:fs[f]?=some (off,b))(C:b≠0)(y:opd env p = .ptr s i j)(D:sto.get s=some k) :
  Qv P o env sto nxt ⟨.ptr s i (j+off),[],[s],0⟩:=.ran λF m a v w x _=>by
 have c:=w p (by simp[d,Op.operands])
 rw[y]at c
 obtain ⟨e,g,l,n,q,_,r,u,E⟩:=Qch c (x s Os k D)
 refine Qeb d v B A z C u ?_
 rw[Vg,<- q]
 exact .ptr n r
theorem Qea{t e:Nat}{x f:Operand}(l:o.op = .indexAddr t x f)(n:Inv F m){h b:TyD}(w:QB P t h)(j:h.k = .slice e)(p:QB P e b){k:IntKind}{i:Int}(y:a.eval f = .int k i)
  {g q len cap:Nat}(z:a.eval x = .slice (some ⟨g,q,none⟩) len cap)(u:0<=i)(s:i<len){d:DV}(r:Rep m (.pointer (some ⟨g,q+i.toNat*b.size,none⟩)) d):Ran P F o a m d []:=by have c:=w.kind;rw[j]at c;refine Ran.val n (v:=.pointer (some ⟨g,q+i.toNat*b.size,none⟩)) ?_ r;simp[execOp,l,y,z,Instr.indexAt,run_underlying c,asIntOf,u,s,QeH p,add_lit]
theorem r_iaS{t e:Nat}{x q:Operand}{v p:TyD}{k:IntKind}{i:Nat}{xs:List (List DV)}{y:List DV}(n:o.op = .indexAddr t x q)(N:QB P t v)(K:v.k = .slice e)(L:QB P e p)(Q:opd env x = .sl xs)(O:opd env q = .lit (.int k (i:Int)))
  (c:xs[i]?=some y)(M:y.length=p.size):Qv P o env sto nxt ⟨.pp y,[],[],0⟩:=.ran λF m a J u _ _=>by
 have r:=u x (by simp[n,Op.operands])
 have s:=u q (by simp[n,Op.operands])
 rw[Q]at r
 rw[O]at s
 have g:i<xs.length:=by
  rcases Ws i xs.length with h' | h'
  ·exact h'
  ·rw[Wi h']at c;cases c
 obtain ⟨R,w,z,S,T,A⟩:=r.sl_inv.sl_inv
 obtain ⟨b,B,C,f,rfl,U,D,E,G,H,I⟩:=A (by rintro rfl;simp at g)
 have h:p.size=C:=by rw[<- M,G i y c]
 refine Qea n J N K L s.lit_inv z Oo Oo ?_
 rw[h,Wd]
 exact .pp (f i) D E (λj d l=>H i y j d c l) (λj d l=>I i y j d c l)
theorem r_iaM{α:Type}{c:α->List DV}{l:List α}{t e:Nat}{x d:Operand}{f b:TyD}{k:IntKind}{i:Nat}(h:o.op = .indexAddr t x d)(n:QB P t f)(g:f.k = .slice e)(j:QB P e b)(q:opd env x = .sl (l.map c))(p:opd env d = .lit (.int k (i:Int)))
  (a:i<l.length)(m:(c l[i]).length=b.size):Qv P o env sto nxt ⟨.pp (c l[i]),[],[],0⟩ :=
 r_iaS h n g j q p (by rw[Wh,Wa a];rfl) m
theorem r_iaO{t e:Nat}{x d:Operand}{q p:TyD}{k:IntKind}{i:Nat}{s off len:Nat}{c:Ob}(b:o.op = .indexAddr t x d)(E:QB P t q)(B:q.k = .slice e)(D:QB P e p)(I:opd env x = .own s off len)(H:opd env d = .lit (.int k (i:Int)))(G:sto.get s=some c)
  (J:c.esz=p.size)(C:i<len):Qv P o env sto nxt ⟨.ptr s (off+i) 0,[],[s],0⟩:=.ran λF m a z n A _=>by
 have f:=n x (by simp[b,Op.operands])
 have l:=n d (by simp[b,Op.operands])
 rw[I]at f
 rw[H]at l
 obtain ⟨K,r,u,_,h⟩:=Jm f (A s Os c G)
 rcases h with ⟨g,v,w,y,L,M⟩ | ⟨_,_,_,h,_⟩
 ·refine Qea b z E B D l.lit_inv y Oo Oo ?_
  rw[Wd,<- J,<- Vk,<- u]
  have:=Rep.ptr (i:=off+i) (j:=0) r w
  rwa [Vz]at this
 ·omega
theorem r_iaG{t e n g:Nat}{l:List Int}{p:Operand}{y h:TyD}{k:IntKind}{i:Nat}{v:Int}(x:o.op = .indexAddr t (.global g) p)(M:QB P t y)(I:y.k = .array n e)(J:QB P e h)(O:opd env p = .lit (.int k (i:Int)))(L:gTab=some (g,l))(K:l[i]?=some v)(N:h.size=1)
  (f:i<n):Qv P o env sto nxt ⟨.pp [.lit (.int .u8 v)],[],[],0⟩:=.ran λF m a c H R _=>by
 have r:=H p (by simp[x,Op.operands])
 rw[O]at r
 have u:=M.kind
 rw[I]at u
 obtain ⟨w,A,B,C,D⟩:=c.tab g l L
 have Q:(0:Int)<=(i:Int):=by omega
 have z:a.eval (.global g) = .pointer (some ⟨g,0,none⟩):=rfl
 refine Ran.val c (v:=.pointer (some ⟨g,i*h.size,none⟩)) ?_ ?_
 ·simp[execOp,x,r.lit_inv,z,Instr.indexAt,run_underlying u,asIntOf,QeH J,add_lit,Instr.sureAddr,f]
 ·rw[N,YG]
  refine .pp (λ_=>.int .u8 v) (λq=>?_) (Vp w c.size) (λj d b=>?_) (λj d b=>?_)
  ·rcases q with q | ⟨s,e,E,_,G⟩
   ·exact C q
   ·rcases (c.at_ s e g E G).2.2.2 with q | q
    ·omega
    ·exact B q
  ·have:j=0:=by
    rcases j with _ | j
    ·rfl
    ·cases b
   subst this
   rw[Vz,QaI (c.old g w A)]
   exact D i v K
  ·have:j=0:=by
    rcases j with _ | j
    ·rfl
    ·cases b
   subst this
   injection b with b
   subst b
   exact .lit _ rfl
theorem r_iaA{t e n:Nat}{x h:Operand}{w c:TyD}{k:IntKind}{i:Nat}{s p q:Nat}{f:Ob}(d:o.op = .indexAddr t x h)(I:QB P t w)(G:w.k = .array n e)(H:QB P e c)(L:opd env x = .ptr s p q)(K:opd env h = .lit (.int k (i:Int)))(J:sto.get s=some f)
  (b:i<n):Qv P o env sto nxt ⟨.ptr s p (q+i*c.size),[],[s],0⟩:=.ran λF m a D u E _=>by
 have j:=u x (by simp[d,Op.operands])
 have l:=u h (by simp[d,Op.operands])
 rw[L]at j
 rw[K]at l
 have r:=I.kind
 rw[G]at r
 obtain ⟨N,g,y,z,A,_,B,C,O⟩:=Qch j (E s Os f J)
 have M:(0:Int)<=(i:Int):=by omega
 refine Ran.val D (v:=.pointer (some ⟨g,p*f.esz+q+i*c.size,none⟩)) ?_ ?_
 ·simp[execOp,d,l.lit_inv,C,Instr.indexAt,run_underlying r,asIntOf,QeH H,add_lit,Instr.sureAddr,b]
 ·rw[Vg,<- A]
  exact .ptr z B
theorem slice_at{b off sz:Nat}{xs:List (List DV)}{w:World}{no:Nat->Prop}{cap:Nat}{f:Nat->Nat->Value}(q:0<sz)(u:xs.length<=cap)(s:cap<=maxLen)(k:¬ no b)(r:b<w.heap.size)(p:∀ (i:Nat) x,xs[i]?=some x->x.length=sz)
  (o:∀ (i:Nat) x (j:Nat) d,xs[i]?=some x->x[j]?=some d->w.cell? ⟨b,off+i*sz+j,none⟩=some (f i j))(n:∀ (i:Nat) x (j:Nat) d,xs[i]?=some x->x[j]?=some d->PRep w no (f i j) d)
  (a g:Nat)(m:a<g)(t:g<=xs.length):PRep w no (.slice (some ⟨b,off+a*sz,none⟩) (g-a) (cap-a)) (.sl ((xs.take g).drop a)):=by
 have l:((xs.take g).drop a).length=g-a:=by simp;omega
 have c:∀ (i:Nat) x,((xs.take g).drop a)[i]?=some x->xs[a+i]?=some x:=λi x e=>by
  rw[WW,WM]at e;split at e
  ·exact e
  ·cases e
 have:=PRep.sl (w:=w) (no:=no) b (off+a*sz) (cap-a) sz ((xs.take g).drop a) (λi j=>f (a+i) j) q Oo Oo Oo k r (λi x e=>p _ x (c i x e))
  (λi x j d e h=>by rw[show off+a*sz+i*sz+j=off+(a+i)*sz+j by rw[Vk];omega];exact o _ x j d (c i x e) h) (λi x j d e h=>n _ x j d (c i x e) h)
 rwa [l]at this
inductive Bnd(env:Env):Option Operand->Option Nat->Prop
 | none:Bnd env none none
 | some {x:Operand} {k:IntKind} {n:Nat}:opd env x = .lit (.int k (n:Int))->Bnd env (some x) (some n)
theorem Qe1{b:Option Operand}{l:Option Nat}(h:Bnd env b l)(c:∀ x,b=some x->Rep m (a.eval x) (opd env x)):(b.map a.eval=none/\l=none)\/∃ k n,b.map a.eval=some (.int k ((n:Nat):Int))/\l=some n:=by
 cases h with
 | none=>exact .inl ⟨rfl,rfl⟩
 | @some x k n h =>have:=c x rfl;rw[h]at this;exact .inr ⟨k,n,by rw[Wx,this.lit_inv],rfl⟩
theorem XM{len cap:Nat}{c e:Option Value}{l h:Option Nat}(g:(c=none/\l=none)\/∃ k n,c=some (.int k ((n:Nat):Int))/\l=some n)(j:(e=none/\h=none)\/∃ k n,e=some (.int k ((n:Nat):Int))/\h=some n)
  (d:l.getD 0<=h.getD len)(i:h.getD len<=len)(o:len<=cap)(b:Bool)(w:World) :
  (Instr.sliceBounds b len cap c e none).run P w = .ok (l.getD 0,h.getD len,cap) w:=by
 rcases g with ⟨rfl,rfl⟩ | ⟨k,n,rfl,rfl⟩ <;> rcases j with ⟨rfl,rfl⟩ | ⟨m,f,rfl,rfl⟩ <;>
  simp only[YN,WG]at d i
 ·simp[Instr.sliceBounds]
 ·have a:f<=cap:=by omega
  simp[Instr.sliceBounds,Instr.sliceBound,asIntOf,a]
 ·simp[Instr.sliceBounds,Instr.sliceBound,asIntOf,d]
 ·have a:f<=cap:=by omega
  simp[Instr.sliceBounds,Instr.sliceBound,asIntOf,a,d]
theorem QcV{t e:Nat}{c b:TyD}(j:QB P t c)(g:c.k = .slice e)(i:QB P e b){ad:Option Addr}{len cap:Nat}{d f:Option Value}{l h:Nat}{w:World}
  (k:(Instr.sliceBounds true len cap d f none).run P w = .ok (l,h,cap) w) :
  (Instr.sliceAt t (.slice ad len cap) d f none).run P w = .ok (.slice (if cap=l then ad else ad.map (·.add (l*b.size))) (h-l) (cap-l)) w:=by have a:=j.kind;rw[g]at a;simp[Instr.sliceAt,run_underlying a,Instr.slice,k,QeH i]
theorem r_slS{t e:Nat}{x:Operand}{u w:Option Operand}{s g:TyD}{xs:List (List DV)}{l h:Option Nat}(i:o.op = .slice t x u w none)(V:QB P t s)(Q:s.k = .slice e)(T:QB P e g)(d:opd env x = .sl xs)(R:Bnd env u l)(S:Bnd env w h)
  (U:l.getD 0<=h.getD xs.length)(n:h.getD xs.length<=xs.length)(W:∀ y∈xs.head?,y.length=g.size):Qv P o env sto nxt ⟨.sl ((xs.take (h.getD xs.length)).drop (l.getD 0)),[],[],0⟩:=.ran λF m a O k _ _=>by
 have p:=k x (by simp[i,Op.operands])
 rw[d]at p
 have z:=Qe1 (m:=m) (a:=a) R λx d=>k x (by simp[i,Op.operands,d])
 have A:=Qe1 (m:=m) (a:=a) S λx d=>k x (by simp[i,Op.operands,d])
 obtain ⟨ad,c,C,q,D,E⟩:=p.sl_inv.sl_inv
 have b:=QcV V Q T (ad:=ad) (XM (P:=P) z A U n q true m.w)
 generalize l.getD 0=l' at *
 generalize h.getD xs.length=h' at *
 refine Ran.val O (v:=.slice (if c=l' then ad else ad.map (·.add (l' * g.size))) (h' - l') (c-l')) (by simp[execOp,i,C,b]) ?_
 by_cases N:l' < h'
 ·obtain ⟨X,G,H,f,rfl,I,J,K,r,L,M⟩:=E (by rintro rfl;simp at n;omega)
  have j:g.size=H:=by
   cases xs with
   | nil=>simp at n;omega
   | cons y ys=>rw[<- W y rfl,r 0 y rfl]
  rw[if_neg Oo]
  simp only[Wx,add_lit]
  rw[j]
  exact .pure (slice_at I q D J K r L M l' h' Oo Oo)
 ·obtain rfl:l'=h':=by omega
  have B:(xs.take l').drop l'=[]:=by simp
  rw[B,V1]
  exact .pure (.nil _ _ Oo)
theorem r_slO{t e:Nat}{x:Operand}{K L:Option Operand}{J u:TyD}{s off len:Nat}{f:Ob}{l h:Option Nat}(n:o.op = .slice t x K L none)(I:QB P t J)(D:J.k = .slice e)(G:QB P e u)(k:opd env x = .own s off len)(S:sto.get s=some f)(Q:Bnd env K l)(R:Bnd env L h)
  (T:f.esz=u.size)(H:l.getD 0<=h.getD len)(E:h.getD len<=len)(W:l.getD 0=0\/l.getD 0<h.getD len):Qv P o env sto nxt ⟨.own s (off+l.getD 0) (h.getD len-l.getD 0),[],[s],0⟩:=.ran λF m a C q r _=>by
 have w:=q x (by simp[n,Op.operands])
 rw[k]at w
 have y:=Qe1 (m:=m) (a:=a) Q λx k=>q x (by simp[n,Op.operands,k])
 have z:=Qe1 (m:=m) (a:=a) R λx k=>q x (by simp[n,Op.operands,k])
 obtain ⟨U,A,N,V,j⟩:=Jm w (r s Os f S)
 rcases j with ⟨g,cap,j,p,O,B⟩ | ⟨j,p,rfl,rfl,O,B⟩
 ·have b:=QcV I D G (ad:=some ⟨g,off*f.esz,none⟩) (XM (P:=P) (cap:=cap-off) y z H E Oo true m.w)
  have i:=B.max
  generalize l.getD 0=l' at *
  generalize h.getD len=h' at *
  refine Ran.val C (v:=.slice (if cap-off=l' then some ⟨g,off*f.esz,none⟩ else some ⟨g,off*f.esz+l' * u.size,none⟩) (h' - l') (cap-off-l')) (by simp[execOp,n,p,b,add_lit]) ?_
  have c:=Rep.own (m:=m) (off:=off+l') (len:=h' - l') A j Oo i
  rw[N]at c
  by_cases d:cap-off=l'
  ·have M:l'=0:=by omega
   subst M
   simp only[Vz,UR]at c d ⊢
   rw[if_pos d]
   exact c
  ·rw[if_neg d,<- T,<- Vk,Nat.sub_sub]
   exact c
 ·have b:=QcV I D G (ad:=none) (XM (P:=P) (len:=0) (cap:=0) y z H E (Wl _) true m.w)
  generalize l.getD 0=l' at *
  generalize h.getD 0=h' at *
  obtain rfl:l'=0:=by omega
  obtain rfl:h'=0:=by omega
  refine Ran.val C (v:=.slice none 0 0) (by simp[execOp,n,p,b]) ?_
  exact .ownNil A j
theorem evals_rep{xs:List Operand}(h:∀ x∈xs,Rep m (a.eval x) (opd env x)):∀ (i:Nat) v d,(xs.map a.eval)[i]?=some v->(xs.map (opd env))[i]?=some d->Rep m v d:=λi v d b c=>by
 rw[Wh]at b c;cases hx:xs[i]? with
 | none=>rw[hx]at b;cases b
 | some x =>rw[hx]at b c;injection b with b;injection c with c;rw[<- b,<- c];exact h x (Wq hx)
theorem r_func{f:Nat}{cap:Array Operand}{l:List Operand}(b:o.op = .makeFunc (.func f) #[] cap)(g:cap=l.toArray):Qv P o env sto nxt ⟨.fn f (l.map (opd env)),[],[],0⟩:=.ran λF m a c d _ _=>by subst g;refine Ran.val c (v:=.func (.func f) #[] (l.map a.eval).toArray) (by simp[execOp,b,Instr.makeFunc]) (.fn Os (evals_rep λx e=>d x (by simp[b,Op.operands,e])))
theorem fold_set(cs:List Value)(off:Nat)(a:Array Value):cs.toArray.zipIdx.foldl (λacc (p:Value×Nat)=>acc.setIfInBounds (off+p.2) p.1) a=(setCells a.toList off cs).toArray:=by
 rw[<- Array.foldl_toList,Array.toList_zipIdx];have b:∀ (cs:List Value) (k:Nat) (a:Array Value),(cs.zipIdx k).foldl (λacc (p:Value×Nat)=>acc.setIfInBounds (off+p.2) p.1) a=(setCells a.toList (off+k) cs).toArray:=by
  intro cs;induction cs with
  | nil=>intro k a;simp[setCells]
  | cons c cs ih =>intro k a;rw[List.zipIdx_cons,V2,ih];simp[setCells,Vg]
 exact b cs 0 a
def Reps(m:Mem)(vs:List Value)(ds:List DV):Prop:=vs.length=ds.length/\∀ (i:Nat) v d,vs[i]?=some v->ds[i]?=some d->Rep m v d
theorem Reps.set{vs:List Value}{ds:List DV}(h:Reps m vs ds){cs:List Value}{c:List DV}(k:Reps m cs c){off:Nat}(g:off+c.length<=ds.length):Reps m (setCells vs off cs) (setCells ds off c):=by
 refine ⟨by rw[JY,JY,h.1],λi v d a b=>?_⟩;rw[QbA cs vs off (by rw[k.1,h.1];exact g)]at a;rw[QbA c ds off g]at b;by_cases e:i<off
 ·rw[if_pos e]at a b;exact h.2 i v d a b
 ·rw[if_neg e]at a b;rw[k.1]at a;by_cases f:i<off+c.length
  ·rw[if_pos f]at a b;exact k.2 _ v d a b
  ·rw[if_neg f]at a b;exact h.2 i v d a b
def partF(sto:Sto):DV->Option (List DV×List Nat)
 | .agg cs=>some (cs,[])
 | x=>(box1F sto x).map λr=>([x],r)
theorem one_cells{u:Value}(a:u.oneCell'=true):u.cells=[u].toArray:=by cases u <;> first | rfl | (simp[Value.oneCell']at a)
theorem part_val{v:Value}{x:DV}(a:Rep m v x){cs:List DV}{r:List Nat}(h:partF sto x=some (cs,r))(g:QZ m sto r):∃ vs:List Value,v.cells=vs.toArray/\Reps m vs cs:=by
 have fin:∀ {x:DV},Rep m v x->(box1F sto x).map (λr=>([x],r))=some (cs,r)->∃ vs:List Value,v.cells=vs.toArray/\Reps m vs cs:=λ{x} a h=>by
  cases hb:box1F sto x with
  | none=>rw[hb]at h;cases h
  | some r' =>
   rw[hb]at h;simp only[Wx,Wz,Ul]at h;obtain ⟨rfl,rfl⟩:=h;refine ⟨[v],one_cells (box1_one (box1F_ok hb) g a),rfl,λi u d b c=>?_⟩;cases i with
   | zero=>simp at b c;subst b;subst c;exact a
   | succ i=>simp at b
 cases x with
 | agg xs =>simp only[partF,Wz,Ul]at h;obtain ⟨rfl,rfl⟩:=h;obtain ⟨vs,rfl,e,f⟩:=a.agg_inv;exact ⟨vs,rfl,e,f⟩
 | _=>exact fin a h
def QdQ(sto:Sto)(place:Nat->Option (Nat×Nat))(cells:List DV):List (Nat×DV)->Option (List DV×List Nat)
 | []=>some (cells,[])
 | (i,x) :: rest=>match place i with
  | none=>none
  | some (off,size) =>
   match partF sto x with
   | none=>none
   | some (cs,r)=>if cs.length=size/\off+size<=cells.length then(match QdQ sto place (setCells cells off cs) rest with
    | some (out,r')=>some (out,r++r')
    | none=>none) else none
theorem Qgb{b:Nat->Option (Nat×Nat)}{parts:List (Nat×Operand)}(l:∀ p∈parts,Rep m (a.eval p.2) (opd env p.2)){vs:List Value}{ds out:List DV}{r:List Nat}(g:Reps m vs ds)
  (h:QdQ sto b ds (parts.map λp=>(p.1,opd env p.2))=some (out,r))(n:QZ m sto r) :
  ∃ us:List Value,Instr.fill b vs.toArray (parts.map λp=>(p.1,a.eval p.2))=some us.toArray/\Reps m us out:=by
 induction parts generalizing vs ds r with
 | nil =>simp only[List.map_nil,QdQ,Wz,Ul]at h;obtain ⟨rfl,rfl⟩:=h;exact ⟨vs,rfl,g⟩
 | cons p rest ih =>
  obtain ⟨i,x⟩:=p;simp only[Vj,QdQ]at h;cases f:b i with
  | none=>rw[f]at h;cases h
  | some q =>
   obtain ⟨off,e⟩:=q;rw[f]at h;dsimp only at h;cases hq:partF sto (opd env x) with
   | none=>rw[hq]at h;cases h
   | some q =>
    obtain ⟨y,r1⟩:=q;rw[hq]at h;dsimp only at h;split at h
    ·rename_i hc;obtain ⟨t,z⟩:=hc;split at h
     ·rename_i out' r2 hf;simp only[Wz,Ul]at h;obtain ⟨rfl,rfl⟩:=h;obtain ⟨u,j,k⟩:=part_val (l (i,x) Os) hq λs h=>n s (Wg _ h);have d:=g.set k (off:=off) Oo;obtain ⟨us,v,w⟩:=ih (λp f=>l p (Wp _ f)) d hf λs h=>n s (Wj _ h);refine ⟨us,?_,w⟩;have c:=fold_set u off vs.toArray;simp only[Vj,Instr.fill,f];have o:(a.eval x).cells.size=e:=by rw[j];simp[k.1,t]
      rw[if_neg (by rw[o];simp[g.1];omega),j,c];exact v
     ·cases h
    ·cases h
theorem zero_reps{t:Nat}{b:TyD}(k:QB P t b)(m:Mem):∃ z,(zeroValue t).run P m.w = .ok z m.w/\Reps m z.cells.toList b.zero/\(∀ u∈z.cells,u.oneCell'=true)/\(if b.agg then ∃ cs,z = .agg cs else z.oneCell'=true):=by obtain ⟨i,z,g,l,n,h,c,e,j⟩:=QbM k;refine ⟨z,by simp[zeroValue,typeInfo,g,h],⟨by rw[<- c];simp,λi v d f a=>?_⟩,e,j⟩;rw[<- c,Wh,f]at a;injection a with a;subst a;exact .pure (.lit v (e v (by simpa using List.mem_of_getElem? f)))
theorem Qgw:∀ (l:List Field),(∀ f∈l,(P.info? f.type).isSome=true)->l.mapM (λf=>(P.info? f.type).map λi=>(f.offset,i.size))=some (l.map λf=>(f.offset,P.cellsOf f.type))
 | [],_=>rfl
 | f :: l,h=>by
  obtain ⟨i,a⟩:=VQ.1 (h f Os);have b:P.cellsOf f.type=i.size:=by unfold Program.cellsOf;rw[a];rfl
  simp[Y4,a,Qgw l (λg c=>h g (by simp[c])),b]
theorem r_build{t:Nat}{parts:Array (Nat×Operand)}{l:List (Nat×Operand)}{j:TyD}{fs:List (Nat×Nat)}{b:List DV}{r:List Nat}(A:o.op = .build t parts)(q:parts=l.toArray)(B:QB P t j)(N:j.k = .struct fs)
  (h:QdQ sto (fs[·]?) j.zero (l.map λp=>(p.1,opd env p.2))=some (b,r)):Qv P o env sto nxt ⟨.agg b,[],r,0⟩:=.ran λF m a K L M _=>by
 subst q
 obtain ⟨i,z,G,_,_,H,s,I,_⟩:=QbM B
 have e:=B.kind
 rw[N]at e
 obtain ⟨c,e,k,J⟩:=e
 have C:Reps m z.cells.toList j.zero:=⟨by rw[<- s];simp,λi v d y g=>by
  rw[<- s,Wh,y]at g
  injection g with g
  subst g
  exact .pure (.lit v (I v (by simpa using List.mem_of_getElem? y)))⟩
 obtain ⟨n,u,w⟩:=Qgb (parts:=l) (λp q=>L p.2 (by simp only[A,Op.operands];simp;exact ⟨p.1,q⟩)) C h M
 rw[U1]at u
 have D:P.built t (l.map λp=>(p.1,a.eval p.2))=some n.toArray:=by unfold Program.built;simp only[G,e,H,Qgw c.toList (λf k=>WZ.1 J f k),k];simpa using u
 refine Ran.val K (v:=.agg n.toArray) ?_ (.agg w.1 w.2)
 have E:=run_build (P:=P) m.w t (l.map λp=>(p.1,a.eval p.2)).toArray n.toArray (by simpa using D)
 simp only[execOp,A]
 rw[show (l.toArray.map λ(x:Nat×Operand)=>match x with | (i,x)=>(i,a.eval x))=(l.map λp=>(p.1,a.eval p.2)).toArray from by simp]
 rw[Sem.run_bind,E]
 rfl
end
section
variable{P:Program}{F:Fm}{m:Mem}{a:Act}{env:Env}{sto:Sto}{nxt:Nat}{o:Oper}
theorem QH.of{m:Mem}{s:Nat}{a:Ob}{e:Ent}{g cap:Nat}(f:m.σ s=some (some e))(c:e.esz=a.esz)(i:e.mu=!a.frz)(d:e.blk=some (g,cap))(h:Row m a g cap)(b:Deep m e.inn a g):QH m s a :=
 ⟨e,f,c,i,by rw[d];exact ⟨h,b⟩⟩
theorem Ran.new{F:Fm}(A:Inv F m){s:Nat}(B:m.σ s=none){cur:Array Value}{T:Nat}{v:Value}{d:DV}{b:Ob}{cap:Nat}(f:(execOp a.eval o).run P m.w = .ok (.value v) (m.w.alloc (.cells cur T)))
  (w:∀ m':Mem,m'.σ s=some (some ⟨b.esz,some (m.w.heap.size,cap),true,noI⟩)->Rep m' v d)(y:b.frz=false)
  (l:∀ m':Mem,Ext m m'->m'.w.heap[m.w.heap.size]?=some (.cells cur T (0,0))->Row m' b m.w.heap.size cap)(e:b.arr=true\/∀ (i:Nat) x (j:Nat) z xs,b.els[i]?=some x->x[j]?=some (.dp z xs)->False):Ran P F o a m d [(s,some b)]:=by
 have n:=Qdn A B (m.w.alloc (.cells cur T)) ⟨b.esz,some (m.w.heap.size,cap),true,noI⟩ rfl rfl rfl Os (λk t=>heap_alloc_old m.w _ t) (λg c h=>by
  injection h with h
  injection h with r C
  subst r
  exact ⟨Wl _,Os⟩)
 refine ⟨v,_,.inl f,n.1,n.2,w _ (Qh _ _ _),λp u=>?_⟩;obtain rfl:p=(s,some b):=by simpa using u
 refine ⟨_,Qh _ _ _,rfl,by rw[y];rfl,?_⟩;have q:=l _ n.2.toExt (heap_alloc_new m.w _);exact ⟨q,e.elim (λh=>q.deep h _) Deep.flat⟩
theorem Qgq{m m':Mem}(h:Ext m m'){vs:List Value}{ds:List DV}{arr:Bool}(f:Reps m vs ds)(k:∀ (i:Nat) v d,vs[i]?=some v->ds[i]?=some d->Qhl m arr v d){g T sz:Nat}(n:m'.w.heap[g]?=some (.cells vs.toArray T (0,0)))(c:ds.length=sz)(l:0<sz):Row m' ⟨sz,arr,false,[ds]⟩ g 1:=by
 refine ⟨⟨vs.toArray,T,n,by simp[f.1,c],λi x j d a e=>?_⟩,Wl _,by unfold maxLen;omega,l,λi x a=>?_⟩
 ·cases i with
  | zero =>
   simp only[WR,Wz]at a;subst a;have b:j<vs.length:=by
    rcases Ws j ds.length with h' | h'
    ·rw[f.1];exact h'
    ·rw[Wi h']at e;cases e
   refine ⟨vs[j],by simp[b],(k j _ d (Wa b) e).ext h⟩
  | succ i=>simp at a
 ·cases i with
  | zero=>simp only[WR,Wz]at a;subst a;exact c
  | succ i=>simp at a
theorem Box.nodp{cs:List DV}{r:List Nat}(h:Box sto cs r):∀ (j:Nat) z xs,cs[j]?=some (.dp z xs)->False:=by
 induction h with
 | nil=>intro j z xs h;simp at h
 | cons h1 _ ih =>
  intro j z xs h;cases j with
  | zero=>simp only[WR,Wz]at h;subst h;cases h1
  | succ j=>exact ih j z xs (by simpa using h)
theorem r_alloc{t:Nat}{b:TyD}(D:o.op = .alloc t)(n:QB P t b)(G:b.zero.length=b.size)(E:0<b.size):Qv P o env sto nxt ⟨.ptr nxt 0 0,[(nxt,some ⟨b.size,false,false,[b.zero]⟩)],[],1⟩:=.ran λF m a w H I y=>by
 obtain ⟨z,q,k,r,_⟩:=zero_reps n m;refine Ran.new w (y nxt (Wl _) (by show nxt<nxt+1;omega)) (cur:=z.cells) (T:=t) (v:=.pointer (some ⟨m.w.heap.size,0,none⟩)) (cap:=1) ?_ (λf h=>?_) rfl (λf A B=>?_) ?_
 ·have p:(newVar t z).run P m.w = .ok ⟨m.w.heap.size,0,none⟩ (m.w.alloc (.cells z.cells t)):=by simp[newVar,newRow]
  simp[execOp,D,Instr.alloc,q,p]
 ·have:=Rep.ptr (m:=f) (i:=0) (j:=0) h rfl;simpa using this
 ·have e:f.w.heap[m.w.heap.size]?=some (.cells z.cells.toList.toArray t (0,0)):=by simpa using B
  exact Qgq A k (λi v d l C=>⟨r v (by simpa using List.mem_of_getElem? l),by simpa using k.2 i v d l C⟩) e G E
 ·refine .inr λi x j J xs g c=>?_;cases i with
  | zero =>
   simp only[WR,Wz]at g;subst g;obtain ⟨s,_,u,_⟩:=n.zero;rw[<- u,Wh]at c;cases hq:s.cells.toList[j]? with
   | none=>rw[hq]at c;cases c
   | some v=>rw[hq]at c;cases c
  | succ i=>simp at g
theorem r_box{t:Nat}{x:Operand}{c:TyD}{cs:List DV}{r:List Nat}(l:o.op = .box t x)(K:QB P t c)(H:QbE c (opd env x)=some cs)(n:boxF sto cs=some r)(G:0<c.size) :
  Qv P o env sto nxt ⟨.ptr nxt 0 0,[(nxt,some ⟨c.size,false,false,[cs]⟩)],r,1⟩:=.ran λF m a w y z A=>by
 have b:=y x (by simp[l,Op.operands])
 obtain ⟨e,q,I,s,u,f⟩:=QgY b H (box_one (Qe0 n) z)
 refine Ran.new w (A nxt (Wl _) (by show nxt<nxt+1;omega)) (cur:=e.toArray) (T:=t) (v:=.pointer (some ⟨m.w.heap.size,0,none⟩)) (cap:=1) ?_ (λg h=>?_) rfl (λg B C=>?_) ?_
 ·have p:(newVar t (a.eval x)).run P m.w = .ok ⟨m.w.heap.size,0,none⟩ (m.w.alloc (.cells e.toArray t)):=by simp[newVar,newRow,q]
  simp[execOp,l,Instr.box,p]
 ·have:=Rep.ptr (m:=g) (i:=0) (j:=0) h rfl
  simpa using this
 ·exact Qgq B ⟨Oo,f⟩ (λi v d k D=>⟨u v (Wq k),by simpa using f i v d k D⟩) C s G
 ·refine .inr λi x j J xs b E=>?_
  cases i with
  | zero =>
   simp only[WR,Wz]at b
   subst b
   exact (Qe0 n).nodp j _ _ E
  | succ i=>simp at b
theorem QdL{m m':Mem}(p:Ext m m'){vs:List Value}{ds:List DV}{arr:Bool}(k:vs.length=ds.length)(q:∀ (i:Nat) v d,vs[i]?=some v->ds[i]?=some d->Qhl m arr v d){g T sz n:Nat}(s:m'.w.heap[g]?=some (.cells vs.toArray T (0,0)))(h:ds.length=n*sz)(r:0<sz)(o:n<=maxLen)
  {b:List (List DV)}(t:b.length=n)(e:∀ (i:Nat) x,b[i]?=some x->x.length=sz/\∀ (j:Nat) d,x[j]?=some d->ds[i*sz+j]?=some d):Row m' ⟨sz,arr,false,b⟩ g n:=by
 refine ⟨⟨vs.toArray,T,s,by simp[k,h],λi x j d f l=>?_⟩,by simp[t],o,r,λi x f=>(e i x f).1⟩;have a:=(e i x f).2 j d l;have c:i*sz+j<vs.length:=by
  rcases Ws (i*sz+j) ds.length with h' | h'
  ·rw[k];exact h'
  ·rw[Wi h']at a;cases a
 exact ⟨vs[i*sz+j],by simp[c],(q _ _ d (Wa c) a).ext p⟩
theorem Qcn{z:Array Value}{n:Nat}(b:0<z.size){j:Nat}(a:j<n):(madeCells z n)[j]?=z[j%z.size]?:=by have:j%z.size<z.size:=UJ _ b;simp[madeCells,a,this]
theorem r_makeZ{t e:Nat}{l c:Operand}{W b:TyD}{k:IntKind}{n:Nat}(K:o.op = .makeSlice t l c)(ht:QB P t W)(hk:W.k = .slice e)(he:QB P e b)(hl:opd env l = .lit (.int k (n:Int)))(hc:opd env c = .lit (.int k (n:Int)))
  (hb:b.bytes*n<=281474976710656)(hm:n<=9223372036854775807)(M:b.zero.length=b.size)(h0:0<b.size)(g:List DV)(A:g.length=b.size)(L:∀ (j:Nat) d,g[j]?=some d->b.zero[j]?=some d\/(b.zero[j]?=some (.lit (.slice none 0 0))/\d = .sl [])) :
  Qv P o env sto nxt ⟨.own nxt 0 n,[(nxt,some ⟨b.size,true,false,List.replicate n g⟩)],[],1⟩:=.ran λF m a hI V hH hF=>by
 have N:=V l (by simp[K,Op.operands])
 have O:=V c (by simp[K,Op.operands])
 rw[hl]at N
 rw[hc]at O
 have Q:=ht.kind
 rw[hk]at Q
 obtain ⟨i,z,X,S,Y,Z,G,U,_⟩:=QbM he
 have B:z.cells.size=b.size:=by rw[<- M,<- G];simp
 have C:(i.bytes:Int)*(n:Int)<=281474976710656:=by
  have h:((b.bytes*n:Nat):Int)<=281474976710656:=by omega
  rw[Y];rwa [YV]at h
 have p:=run_make (P:=P) m.w t e i z Q X Z k k n n Oo (Vo _) C Oo
 simp only[Wd]at p
 refine Ran.new hI (hF nxt (Wl _) (by show nxt<nxt+1;omega)) (cur:=madeCells z.cells (n*i.size)) (T:=e) (v:=.slice (some ⟨m.w.heap.size,0,none⟩) n n) (cap:=n) ?_ (λI h=>?_) rfl (λI J hg=>?_) (.inl rfl)
 ·simp[execOp,K,N.lit_inv,O.lit_inv,p]
 ·have:=Rep.own (m:=I) (off:=0) (len:=n) h rfl Oo (by unfold maxLen;omega)
  simpa using this
 ·have D:I.w.heap[m.w.heap.size]?=some (.cells (madeCells z.cells (n*i.size)).toList.toArray e (0,0)):=by simpa using hg
  refine QdL J (ds:=(List.replicate n g).flatten) (by rw[Wt,size_madeCells,S,U7,US,A,List.sum_replicate_nat]) (λj v d hv w=>?_) D (by simp[A]) h0 (by unfold maxLen;omega) Os (λj x y=>?_)
  ·have r:j<n*b.size:=by
    rcases Ws j (n*b.size) with h' | h'
    ·exact h'
    ·rw[Wi (by simp[A];exact h')]at w;cases w
   have s:(madeCells z.cells (n*i.size))[j]?=some v:=by simpa using hv
   rw[Qcn Oo (by rw[S];exact r)]at s
   have E:g[j%b.size]?=some d:=by
    have u:∀ (n j:Nat),j<n*b.size->(List.replicate n g).flatten[j]?=g[j%b.size]?:=by
     intro n;induction n with
     | zero=>intro j r;omega
     | succ n ih =>
      intro j r;rw[U8,Vr];by_cases H:j<b.size
      ·rw[WF Oo,VE H]
      ·rw[WC Oo,A,ih _ (by rw[Vm]at r;omega),Nat.mod_eq_sub_mod (a:=j) Oo]
    rw[<- u n j r];exact w
   have:z.cells.toList[j%b.size]?=some v:=by rw[B]at s;simpa using s
   rcases L _ _ E with f | ⟨f,rfl⟩
   ·rw[<- G,Wh]at f
    rw[this]at f
    injection f with f
    subst f
    exact ⟨U v (by simpa using List.mem_of_getElem? this),.lit v (U v (by simpa using List.mem_of_getElem? this))⟩
   ·rw[<- G,Wh]at f
    rw[this]at f
    injection f with f
    injection f with f
    subst f
    exact ⟨rfl,PRep.nil _ _ (WO _)⟩
  ·have R:j<n:=by
    rcases Ws j n with h' | h'
    ·exact h'
    ·rw[Wi (by simpa using h')]at y;cases y
   rw[V8,if_pos R]at y
   injection y with y
   subst y
   refine ⟨A,λq d w=>?_⟩
   have f:q<b.size:=by
    rcases Ws q b.size with h' | h'
    ·exact h'
    ·rw[Wi Oo]at w;cases w
   have u:∀ (n j:Nat),j<n->(List.replicate n g).flatten[j*b.size+q]?=g[q]?:=by
    intro n;induction n with
    | zero=>intro j r;omega
    | succ n ih =>
     intro j r;rw[U8,Vr];cases j with
     | zero=>rw[UD,W0,WF Oo]
     | succ j=>rw[Vm,WC Oo,A,show j*b.size+b.size+q-b.size=j*b.size+q by omega,ih j Oo]
   rw[u n j R];exact w
theorem r_make{t e:Nat}{l c:Operand}{b a:TyD}{k:IntKind}{n:Nat}(i:o.op = .makeSlice t l c)(p:QB P t b)(g:b.k = .slice e)(j:QB P e a)(m:opd env l = .lit (.int k (n:Int)))(s:opd env c = .lit (.int k (n:Int)))
  (r:a.bytes*n<=281474976710656)(f:n<=9223372036854775807)(d:a.zero.length=a.size)(q:0<a.size) :
  Qv P o env sto nxt ⟨.own nxt 0 n,[(nxt,some ⟨a.size,true,false,List.replicate n a.zero⟩)],[],1⟩:=r_makeZ i p g j m s r f d q a.zero d λ_ _ h=>.inl h
theorem deep_get{s:Nat}{c:Ob}{e:Ent}{g cap:Nat}(h:QH m s c)(d:m.σ s=some (some e))(f:e.blk=some (g,cap)):Deep m e.inn c g:=by obtain ⟨i,a,_,_,b⟩:=h;rw[d]at a;injection a with a;injection a with a;subst a;rw[f]at b;exact b.2
theorem Deep.set{m':Mem}{n:Nat->Prop}{a:Ob}{g cap T:Nat}{cur:Array Value}(d:Deep m n a g)(r:Row m a g cap)(p:m.w.heap[g]?=some (.cells cur T (0,0))){i j:Nat}{y cs:List DV}{vs:List Value}(q:i*a.esz+j+vs.length<=cur.size)(S:Ext m m')(t:a.els[i]?=some y)(U:j+cs.length<=y.length)
  (A:∀ (j:Nat) z xs,cs[j]?=some (.dp z xs)->False)(W:vs.length=cs.length)(V:m'.w.heap[g]?=some (.cells (cur.toList.take (i*a.esz+j)++vs++cur.toList.drop (i*a.esz+j+vs.length)).toArray T (0,0)))
  (R:∀ b,b≠g->m'.w.heap[b]?=m.w.heap[b]?)(C:¬ n g):Deep m' n { a with els:=a.els.set i (setCells y j cs) } g:=by
 obtain ⟨B,L,M⟩:=d;have G:=r.sz i y t;have H:i<a.els.length:=by
  rcases Ws i a.els.length with h' | h'
  ·exact h'
  ·rw[Wi h']at t;cases t
 have v:∀ (c:Nat) x (e:Nat) z xs,(a.els.set i (setCells y j cs))[c]?=some x->x[e]?=some (.dp z xs)->∃ o,a.els[c]?=some o/\o[e]?=some (.dp z xs)/\(c=i->e < j\/j+cs.length<=e):=λc x e z xs k l=>by
  by_cases f:c=i
  ·subst f;rw[WN H]at k;injection k with k;subst k;rw[QbA cs y j U]at l;refine ⟨y,t,?_⟩;split at l
   ·rename_i hlt;exact ⟨l,λ_=>.inl hlt⟩
   ·split at l
    ·exact (A _ _ _ l).elim
    ·rename_i h3 h4;exact ⟨l,λ_=>.inr Oo⟩
  ·rw[WK (λh=>f h.symm)]at k;exact ⟨x,k,l,λh=>absurd h f⟩
 refine ⟨B,λc x e z xs k l=>?_,M⟩;dsimp only at k ⊢;obtain ⟨o,D,w,N⟩:=v c x e z xs k l;obtain ⟨u,E,s⟩:=L c o e z xs D w;have I:=r.sz c o D;have J:e < a.esz:=by
  rcases Ws e o.length with h' | h'
  ·omega
  ·rw[Wi h']at w;cases w
 refine ⟨u,?_,?_⟩
 ·rw[cell_of_row m'.w g _ _ T (0,0) V];rw[cell_of_row m.w g _ _ T (0,0) p]at E;have:=QeJ cur.toList vs (i*a.esz+j) (by simpa using q) (c * a.esz+e);have K:(cur.toList.take (i*a.esz+j)++vs++cur.toList.drop (i*a.esz+j+vs.length)).toArray[c * a.esz+e]?=cur[c * a.esz+e]?:=by
   rw[UX,this];by_cases f:c=i
   ·subst f;rcases N rfl with h | h
    ·rw[if_pos Oo];simp
    ·rw[if_neg Oo,if_neg Oo];simp
   ·rcases Ws c i with h | h
    ·have:(c+1)*a.esz<=i*a.esz:=Wy _ h;rw[Vm]at this;rw[if_pos Oo];simp
    ·have:(i+1)*a.esz<=c * a.esz:=Wy _ Oo;rw[Vm]at this;rw[if_neg Oo,if_neg Oo];simp
  rw[K];exact E
 ·cases hB:B c e with
  | none=>rw[hB]at s;exact s
  | some b =>rw[hB]at s;obtain ⟨F,O,P,Q⟩:=s;exact ⟨F,O,P,Q.ext S (R b λh=>C (h▸F))⟩
theorem Qgt{t:Nat}{p x:Operand}{X:TyD}{s i j:Nat}{d:Ob}{y cs:List DV}{r:List Nat}(M:o.op = .store t p x)(ht:QB P t X)(J:opd env p = .ptr s i j)(hs:sto.get s=some d)(L:d.frz=false)(ha:d.arr=false)(hc:QbE X (opd env x)=some cs)(D:boxF sto cs=some r)
  (B:d.els[i]?=some y)(Y:j+cs.length<=y.length):Qv P o env sto nxt ⟨.any,[(s,some { d with els:=d.els.set i (setCells y j cs) })],s :: r,0⟩:=.ran λF m a S U V _=>by
 have N:=U p (by simp[M,Op.operands])
 have Z:=U x (by simp[M,Op.operands])
 rw[J]at N
 have O:=V s Os d hs
 obtain ⟨e,g,w,E,k2,Q,C,k5,z⟩:=Qch N O
 obtain ⟨G,q1,q2,q3,R,q5⟩:=QgY Z hc (box_one (Qe0 D) λs H=>V s (Wp _ H))
 obtain ⟨f,T,A,c2,c3⟩:=z.cells
 have aa:=z.sz i y B
 have hi:i<d.els.length:=by
  rcases Ws i d.els.length with h' | h'
  ·exact h'
  ·rw[Wi h']at B;cases B
 have l:i*d.esz+j+G.length<=f.size:=by have:(i+1)*d.esz<=w*d.esz:=Wy _ (by have:=z.len;omega);rw[Vm]at this;omega
 have q:=store_run (m:=m) ht q1 q2 R A l
 have v:=turn_at S E (m.w.setRow g (f.toList.take (i*d.esz+j)++G++f.toList.drop (i*d.esz+j+G.length)).toArray) true (λ_=>by rw[Q,L];rfl) rfl rfl rfl Os (λk hk h=>setRow_other m.w g k _ λI=>by
  subst I
  have:=h _ C
  rw[Q,L]at this
  cases this)
 refine ⟨undef,_,.inr ⟨by simp[execOp,M,k5,q],rfl⟩,v.1,v.2,.any _,λp J=>?_⟩
 obtain rfl:p=(s,some { d with els:=d.els.set i (setCells y j cs) }):=by simpa using J
 refine QH.of (Qh _ _ _) k2 (by rw[L];rfl) C ?_ ?_
 ·exact (z.set A v.2.toExt B Y Oo (λn u c W K=>⟨R u (Wq W),by rw[ha];exact (q5 n u c W K).ext v.2.toExt⟩) (setRow_heap m.w g f _ T _ A)).2
 ·refine (deep_get O E C).set z A Oo v.2.toExt B Y (Qe0 D).nodp Oo (setRow_heap m.w g f _ T _ A) (λb D=>setRow_other m.w g b _ λh=>D h) (S.wf s e g w E C)
end
section
variable{P:Program}{F:Fm}{m:Mem}{a:Act}{env:Env}{sto:Sto}{nxt:Nat}{o:Oper}
def frz(m:Mem)(S:List Nat):Mem:=⟨m.w,m.M,λj=>if j∈S then(m.σ j).map (λx=>x.map λe=>{ e with mu:=false }) else m.σ j⟩
theorem frz_in{S:List Nat}{s:Nat}(a:s∈S){x:Option (Option Ent)}(h:m.σ s=x):(frz m S).σ s=x.map (λx=>x.map λe=>{ e with mu:=false }):=by simp[frz,a,h]
theorem Qcs{S:List Nat}{s:Nat}{e:Ent}(h:(frz m S).σ s=some (some e)):∃ e0,m.σ s=some (some e0)/\e.esz=e0.esz/\e.blk=e0.blk/\(e.mu=true->e0.mu=true)/\e.inn=e0.inn:=by
 by_cases a:s∈S
 ·rw[frz_in a rfl]at h;cases hx:m.σ s with
  | none=>rw[hx]at h;cases h
  | some x =>
   rw[hx]at h;cases x with
   | none=>simp at h
   | some e0 =>simp only[Wx,Wz]at h;subst h;exact ⟨e0,rfl,rfl,rfl,(λh=>by cases h),rfl⟩
 ·have:m.σ s=some (some e):=by simpa [frz,a] using h
  exact ⟨e,this,rfl,rfl,id,rfl⟩
theorem Qeh{F:Fm}(n:Inv F m)(S:List Nat):Inv F (frz m S)/\Loc S m (frz m S):=by
 refine turn n S m.w _ rfl rfl rfl (Wl _) (λ_ _ _=>rfl) (λs b=>by simp[b]) (λs b x w=>?_) (λs b p g k a=>?_) (λs b p g c k a=>?_)
 ·refine ⟨x.map λe=>{ e with mu:=false },by simp[b,w],λp l=>?_⟩;cases x with
  | none=>cases l
  | some e=>simp only[Wx,Wz]at l;subst l;exact ⟨e,rfl,rfl,rfl⟩
 ·obtain ⟨d,f,r,h,o,i⟩:=Qcs (m:=m) (S:=S) (s:=s) (by simpa [frz] using k);replace a:=Ent.has_eq h i a;refine .inl ⟨s,b,d,f,a,o,λq y D z A=>?_⟩;obtain ⟨j,t,B,u,C,v⟩:=Qcs (m:=m) (S:=S) (s:=q) (by simpa [frz] using z);exact n.inj q s j d g t f (Ent.has_eq u v A) a
 ·obtain ⟨d,f,r,h,o,i⟩:=Qcs (m:=m) (S:=S) (s:=s) (by simpa [frz] using k);rw[i];exact n.wf s d g c f (by rw[<- h];exact a)
theorem QgN{F:Fm}(j:Inv F m){S:List Nat}{s:Nat}(k:s∈S){c:Ob}(h:QH m s c):QH (frz m S) s { c with frz:=true }:=by
 have b:=(Qeh j S).2;obtain ⟨e,d,f,l,a⟩:=h;refine ⟨{ e with mu:=false },by rw[frz_in k d];rfl,f,rfl,?_⟩;cases hb:e.blk with
 | none=>rw[hb]at a;exact a
 | some p =>obtain ⟨g,i⟩:=p;rw[hb]at a;have:=Row.ext b.toExt a.1 rfl;exact ⟨⟨this.cells,this.len,this.max,this.pos,this.sz⟩,a.2.ext b.toExt rfl λ_ _=>rfl⟩
theorem frz_keeps{F:Fm}(a:Inv F m){S:List Nat}{s:Nat}{b:Ob}(h:QH m s b)(c:s∉S):QH (frz m S) s b:=QH.loc a (Qeh a S).2 c h
theorem not_no_has{F:Fm}(c:Inv F m){s:Nat}{e:Ent}{g:Nat}(b:m.σ s=some (some e))(d:e.has g)(f:e.mu=false):¬ m.no g:=by
 rintro (h | ⟨s',e',a,h2,h3⟩)
 ·exact (c.at_ s e g b d).2.1 h
 ·have:=c.inj s s' e e' g b a d h3;subst this;rw[b]at a;injection a with a;injection a with a;subst a;rw[f]at h2;cases h2
theorem Qfs{F:Fm}(b:Inv F m){s:Nat}{e:Ent}{g cap:Nat}(c:m.σ s=some (some e))(d:e.blk=some (g,cap))(a:e.mu=false):¬ m.no g:=not_no_has b c (Ent.has_blk d) a
def pure1(sto:Sto):DV->Option (DV×List Nat)
 | .lit v=>some (.lit v,[])
 | .sl xs=>some (.sl xs,[])
 | .own s off len=>match sto.get s with
  | some ob=>if ob.arr=true/\off+len<=ob.els.length then some (.sl ((ob.els.drop off).take len),[s]) else none
  | none=>none
 | _=>none
def QbN(sto:Sto):List DV->Option (List DV×List Nat)
 | []=>some ([],[])
 | d :: l=>match pure1 sto d,QbN sto l with | some (a,u),some (b,v)=>some (a :: b,u++v) | _,_=>none
def QdP(sto:Sto):List Nat->List (Nat×Option Ob)
 | []=>[]
 | s :: l=>match sto.get s with
  | some ob=>(s,some { ob with frz:=true }) :: QdP sto l
  | none=>QdP sto l
theorem frzU_upd{F:Fm}(d:Inv F m){S l:List Nat}(b:∀ s∈l,s∈S)(c:QZ m sto l):∀ p∈QdP sto l,Upd (frz m S) p:=by
 induction l with
 | nil=>intro p hp;cases hp
 | cons s l a =>
  intro p hp;unfold QdP at hp;have a:=a (λs h=>b s (Wp _ h)) (λs h=>c s (Wp _ h));split at hp
  ·rename_i ob hob;rcases Wu.1 hp with rfl | hp
   ·exact QgN d (b s Os) (c s Os ob hob)
   ·exact a p hp
  ·exact a p hp
theorem pure1_ok{F:Fm}(t:Inv F m){c w:DV}{us:List Nat}(h:pure1 sto c=some (w,us))(I:QZ m sto us){S:List Nat}(i:∀ s∈us,s∈S){u:Value}(b:Rep m u c) :
  u.oneCell'=true/\PRep m.w (frz m S).no u w:=by
 have p:=(Qeh t S).2.toExt;cases c with
 | lit v =>unfold pure1 at h;dsimp only at h;injection h with h;injection h with a f;subst a;rw[b.lit_inv];exact ⟨b.lit_one,.lit v b.lit_one⟩
 | sl xs =>unfold pure1 at h;injection h with h;injection h with a f;subst a;exact ⟨Qec b.sl_inv,b.sl_inv.ext p.size p.keep⟩
 | own s off len =>
  unfold pure1 at h;dsimp only at h;split at h
  ·rename_i ob hob;by_cases o:ob.arr=true/\off+len<=ob.els.length
   ·rw[if_pos o]at h;injection h with h;injection h with a f;subst a;obtain ⟨x,y⟩:=o;have d:s∈us:=by rw[<- f];simp
    obtain ⟨e,z,J,K,j⟩:=Jm b (I s d ob hob);rcases j with ⟨g,cap,j,rfl,q,r⟩ | ⟨j,rfl,rfl,rfl,q,r⟩
    ·refine ⟨rfl,?_⟩;have l:¬ (frz m S).no g:=Qfs (Qeh t S).1 (s:=s) (e:={ e with mu:=false }) (cap:=cap) (by rw[frz_in (i s d) z];rfl) j rfl;refine Qci r x l (λk n=>?_) y;rcases n with n | ⟨G,M,a,f,H⟩
     ·exact .inl n
     ·obtain ⟨A,B,L,C,D,E⟩:=Qcs a;exact .inr ⟨G,A,B,D f,Ent.has_eq C E H⟩
    ·refine ⟨rfl,?_⟩;rw[q];exact .nil _ _ (WO _)
   ·rw[if_neg o]at h;cases h
  ·cases h
 | _=>unfold pure1 at h;cases h
theorem pureL_ok{F:Fm}(y:Inv F m){cs f:List DV}{us:List Nat}(h:QbN sto cs=some (f,us))(t:QZ m sto us){S:List Nat}(g:∀ s∈us,s∈S) :
  f.length=cs.length/\∀ (i:Nat) c u,cs[i]?=some c->Rep m u c->u.oneCell'=true/\∀ c',f[i]?=some c'->PRep m.w (frz m S).no u c':=by
 induction cs generalizing f us with
 | nil =>unfold QbN at h;injection h with h;injection h with p q;subst p;exact ⟨rfl,λi c u k=>by simp at k⟩
 | cons d l ih =>
  unfold QbN at h;split at h
  ·rename_i a u b v ha hb;injection h with h;injection h with p q;subst p;subst q;obtain ⟨w,i2⟩:=ih hb (λs j=>t s (Wj _ j)) λs j=>g s (Wj _ j);refine ⟨by simp[w],λi c x k r=>?_⟩;cases i with
   | zero =>simp only[WR,Wz]at k;subst k;obtain ⟨n,o⟩:=pure1_ok y ha (λs j=>t s (Wg _ j)) (λs j=>g s (Wg _ j)) r;exact ⟨n,λc' e=>by simp only[WR,Wz]at e;exact e▸o⟩
   | succ i =>obtain ⟨n,o⟩:=i2 i c x (by simpa using k) r;exact ⟨n,λc' e=>o c' (by simpa using e)⟩
  ·cases h
theorem Ran.after{F:Fm}{S:List Nat}{d:DV}{us vs:List (Nat×Option Ob)}(I:Inv F m)(h:Ran P F o a (frz m S) d us)(t:∀ s∈S,s∈vs.map (·.1))(J:∀ p∈vs,Upd (frz m S) p)(H:∀ p∈vs,p.1∉us.map (·.1)):Ran P F o a m d (us++vs):=by
 obtain ⟨v,u,w,x,i,y,z⟩:=h;obtain ⟨j,l⟩:=Qeh I S;have f:=Loc.trans l i λs e g n q L r=>by obtain ⟨A,B,K,C,_,D⟩:=Qcs n;exact ⟨s,A,B,Ent.has_eq C D q,r⟩
 refine ⟨v,u,w,x,⟨f.toExt,λs r=>f.same s λh=>r ?_,λk E G=>f.blk k E λs e n q h=>G s e n q ?_⟩,y,λp hp=>?_⟩
 ·rw[WP,Wk];rcases Wk.1 h with h | h
  ·exact .inr (t s h)
  ·exact .inl h
 ·rw[WP,Wk];rcases Wk.1 h with h | h
  ·exact .inr (t s h)
  ·exact .inl h
 ·rcases Wk.1 hp with hp | hp
  ·exact z p hp
  ·have b:=J p hp;have c:=H p hp;unfold Upd at b ⊢;cases hq:p.2 with
   | some ob=>rw[hq]at b;exact QH.loc j i c b
   | none=>rw[hq]at b;dsimp only at b ⊢;rw[i.same p.1 c];exact b
theorem frzU_names{l:List Nat}(h:∀ s∈l,(sto.get s).isSome=true):(QdP sto l).map (·.1)=l:=by
 induction l with
 | nil=>rfl
 | cons s l ih =>obtain ⟨c,a⟩:=VQ.1 (h s Os);simp only[QdP,a,Vj,ih λs b=>h s (by simp[b])]
theorem pure1_some{c b:DV}{us:List Nat}(h:pure1 sto c=some (b,us)):∀ s∈us,(sto.get s).isSome=true:=by
 unfold pure1 at h;split at h
 ·injection h with h;injection h with _ h;subst h;intro s a;cases a
 ·injection h with h;injection h with _ h;subst h;intro s a;cases a
 ·split at h
  ·rename_i ob hob;split at h
   ·injection h with h;injection h with _ h;subst h;intro s a;obtain rfl:=Wn.1 a;rw[hob];rfl
   ·cases h
  ·cases h
 ·cases h
theorem QeL{cs c:List DV}{us:List Nat}(h:QbN sto cs=some (c,us)):∀ s∈us,(sto.get s).isSome=true:=by
 induction cs generalizing c us with
 | nil=>unfold QbN at h;injection h with h;injection h with _ h;subst h;intro s hs;cases hs
 | cons d l ih =>
  unfold QbN at h;split at h
  ·rename_i a u b v ha hb;injection h with h;injection h with _ h;subst h;intro s hs;rcases Wk.1 hs with hs | hs
   ·exact pure1_some ha s hs
   ·exact ih hb s hs
  ·cases h
theorem r_storeA{t:Nat}{p x:Operand}{td:TyD}{s i j:Nat}{b:Ob}{y cs f:List DV}{us:List Nat}(Y:o.op = .store t p x)(ht:QB P t td)(H:opd env p = .ptr s i j)(hs:sto.get s=some b)(X:b.frz=false)(ha:b.arr=true)(V:QbE td (opd env x)=some cs)(I:QbN sto cs=some (f,us))
  (hn:us.contains s=false)(K:b.els[i]?=some y)(hj:j+cs.length<=y.length):Qv P o env sto nxt ⟨.any,(s,some { b with els:=b.els.set i (setCells y j f) }) :: QdP sto us,s :: us,0⟩:=.ran λF m a G hE hH _=>by
 have Z:=hE p (by simp[Y,Op.operands])
 have h2:=hE x (by simp[Y,Op.operands])
 rw[H]at Z
 have v:s∉us:=λh=>by simp[h]at hn
 have w:QZ m sto us:=λs U=>hH s (Wp _ U)
 obtain ⟨N,E⟩:=Qeh G us
 obtain ⟨pl,pk⟩:=pureL_ok G I w (S:=us) λ_ h=>h
 have L:QH (frz m us) s b:=QH.loc G E v (hH s Os b hs)
 have M:Rep (frz m us) (a.eval p) (.ptr s i j):=Z.ext E.toExt
 obtain ⟨e,g,O,k1,k2,k3,k4,k5,J⟩:=Qch M L
 obtain ⟨Q,q1,q2,q3,q4,q5⟩:=QgY h2 V λi c u V hr=>(pk i c u V hr).1
 obtain ⟨q,T,R,c2,c3⟩:=J.cells
 have aa:=J.sz i y K
 have hi:i<b.els.length:=by
  rcases Ws i b.els.length with h' | h'
  ·exact h'
  ·rw[Wi h']at K;cases K
 have z:i*b.esz+j+Q.length<=q.size:=by have:(i+1)*b.esz<=O*b.esz:=Wy _ (by have:=J.len;omega);rw[Vm]at this;omega
 have A:=store_run (m:=frz m us) ht q1 q2 q4 R z
 have B:=turn_at N k1 ((frz m us).w.setRow g (q.toList.take (i*b.esz+j)++Q++q.toList.drop (i*b.esz+j+Q.length)).toArray) true (λ_=>by rw[k3,X];rfl) rfl rfl rfl Os (λk hk h=>setRow_other _ g k _ λW=>by
  subst W
  have:=h _ k4
  rw[k3,X]at this
  cases this)
 have d:=frzU_names (sto:=sto) (l:=us) (QeL I)
 refine Ran.after (S:=us) (us:=[(s,some { b with els:=b.els.set i (setCells y j f) })]) G ⟨undef,_,.inr ⟨by simp[execOp,Y,k5,A],rfl⟩,B.1,B.2,.any _,λp H=>?_⟩ (λs h=>by rw[d];exact h) (frzU_upd G (λ_ h=>h) w) (λp H h=>?_)
 ·obtain rfl:p=(s,some { b with els:=b.els.set i (setCells y j f) }):=by simpa using H
  have C:=(J.set (cs:=f) R B.2.toExt K Oo Oo (λn u c hu r=>?_) (setRow_heap _ g q _ T _ R)).2
  ·exact QH.of (Qh _ _ _) k2 (by rw[X];rfl) k4 C (C.deep ha _)
  have D:n<cs.length:=by
   rcases Ws n f.length with h' | h'
   ·omega
   ·rw[Wi h']at r;cases r
  obtain ⟨z1,z2⟩:=pk n _ u (Wa D) (q5 n u _ hu (Wa D))
  refine ⟨z1,?_⟩
  rw[ha]
  exact (z2 c r).ext B.2.size B.2.keep
 ·have:p.1∈us:=by rw[<- d];exact Vc H
  obtain h:p.1=s:=by simpa using h
  exact v (h▸this)
end
section
variable{P:Program}{F:Fm}{m:Mem}{a:Act}{env:Env}{sto:Sto}{nxt:Nat}{o:Oper}
def QbD(len sz:Nat)(cs:List DV):List (List DV):=(List.range len).map λi=>(cs.drop (i*sz)).take sz
def QdJ(a:TyD)(len:Nat):List DV:=(List.range (len*a.size)).map λj=>a.zero.getD (j%a.size) .any
theorem fillD_len{z:Nat}:∀ {ps:List (Nat×DV)} {cs a:List DV} {r:List Nat},QdQ sto (λi=>some (i*z,z)) cs ps=some (a,r)->a.length=cs.length:=by
 intro ps;induction ps with
 | nil=>intro cs a r h;simp only[QdQ,Wz,Ul]at h;rw[h.1]
 | cons p ps ih =>
  intro cs a r h;obtain ⟨i,x⟩:=p;simp only[QdQ]at h;split at h
  ·cases h
  ·split at h
   ·split at h
    ·rename_i hf;simp only[Wz,Ul]at h;obtain ⟨rfl,rfl⟩:=h;rw[ih hf,JY]
    ·cases h
   ·cases h
theorem r_lit{t e len:Nat}{parts:Array (Nat×Operand)}{l:List (Nat×Operand)}{tt c:TyD}{f b:List DV}{r us:List Nat}(ho:o.op = .buildSlice t len parts)(K:parts=l.toArray)(ht:QB P t tt)(hk:tt.k = .slice e)(he:QB P e c)
  (hz:c.zero.length=c.size)(h0:0<c.size)(h1:0<len)(hm:len*c.size<=16777216)
  (h:QdQ sto (λi=>some (i*c.size,c.size)) (QdJ c len) (l.map λp=>(p.1,opd env p.2))=some (f,r))(y:QbN sto f=some (b,us)) :
  Qv P o env sto nxt ⟨.own nxt 0 len,(nxt,some ⟨c.size,true,false,QbD len c.size b⟩) :: QdP sto us,r++us,1⟩:=.ran λF m a M hE hH hF=>by
 subst K
 obtain ⟨i,z,z1,U,z3,z4,z5,z6,_⟩:=QbM he
 have hu:=ht.kind
 rw[hk]at hu
 have N:z.cells.size=c.size:=by rw[<- hz,<- z5];simp
 have O:QZ m sto r:=λs Y=>hH s (Wg _ Y)
 have u:QZ m sto us:=λs Y=>hH s (Wj _ Y)
 obtain ⟨V,aa⟩:=Qeh M us
 have Q:Reps m (madeCells z.cells (len*c.size)).toList (QdJ c len):=by
  refine ⟨by rw[Wt,size_madeCells];simp[QdJ],λj v d Z g=>?_⟩;have A:j<len*c.size:=by
   rcases Ws j (len*c.size) with h' | h'
   ·exact h'
   ·rw[Wi (by simpa [QdJ] using h')]at g;cases g
  have B:(madeCells z.cells (len*c.size))[j]?=some v:=by simpa using Z
  rw[Qcn Oo A,N]at B;unfold QdJ at g;rw[Wh,VH A]at g;injection g with g;have C:z.cells.toList[j%c.size]?=some v:=by simpa using B
  rw[<- g];dsimp only;rw[<- z5,VM,Wh,C];exact .pure (.lit v (z6 v (by simpa using List.mem_of_getElem? C)))
 obtain ⟨vs,k1,k2⟩:=Qgb (parts:=l) (λp K=>hE p.2 (by simp only[ho,Op.operands];simp;exact ⟨p.1,K⟩)) Q h O
 rw[U1]at k1
 have D:f.length=len*c.size:=by rw[fillD_len h];simp[QdJ]
 have E:=run_buildSlice (P:=P) m.w t e len (l.map λp=>(p.1,a.eval p.2)).toArray vs.toArray i z hu z1 z4 (by rw[U];omega) (by rw[U];have:=Y5 h1 h0;omega) (by
  rw[U]
  have:(Array.range (len*c.size)).map (λx=>z.cells[x%z.cells.size]!)=madeCells z.cells (len*c.size):=rfl
  rw[this]
  simpa using k1)
 have G:len<=maxLen:=by have:len<=len*c.size:=YO _ h0;unfold maxLen;omega
 obtain ⟨W,pk⟩:=pureL_ok M y u (S:=us) λ_ h=>h
 have k:=frzU_names (sto:=sto) (l:=us) (QeL y)
 have H:m.σ nxt=none:=hF nxt (Wl _) (by show nxt<nxt+1;omega)
 have I:nxt∉us:=λL=>by obtain ⟨ob,X⟩:=VQ.1 (QeL y nxt L);obtain ⟨e',n,_⟩:=u nxt L ob X;rw[H]at n;cases n
 refine Ran.after (S:=us) (us:=[(nxt,some ⟨c.size,true,false,QbD len c.size b⟩)]) M ?_ (λs h=>by rw[k];exact h) (frzU_upd M (λ_ h=>h) u) (λp K h=>?_)
 ·refine Ran.new V (by simpa [frz,I] using H) (cur:=vs.toArray) (T:=e) (v:=.slice (some ⟨m.w.heap.size,0,none⟩) len len) (cap:=len) ?_ (λm' h=>?_) rfl (λm' n hg=>?_) (.inl rfl)
  ·simp only[execOp,ho]
   rw[show (l.toArray.map λ(x:Nat×Operand)=>match x with | (i,x)=>(i,a.eval x))=(l.map λp=>(p.1,a.eval p.2)).toArray from by simp]
   rw[Sem.run_bind]
   show ((Instr.buildSlice t len _).run P m.w).andThen _=_
   rw[E]
   rfl
  ·have:=Rep.own (m:=m') (off:=0) (len:=len) h rfl Oo G
   simpa [frz] using this
  ·refine QdL n (ds:=b) (by rw[k2.1,W]) (λj v d Z g=>?_) hg (by rw[W,D]) h0 G (by simp[QbD]) (λj x w=>?_)
   ·have J:j<f.length:=by
     rcases Ws j b.length with h' | h'
     ·omega
     ·rw[Wi h']at g;cases g
    obtain ⟨q1,q2⟩:=pk j _ v (Wa J) (k2.2 j v _ Z (Wa J))
    exact ⟨q1,q2 d g⟩
   ·have A:j<len:=by
     rcases Ws j len with h' | h'
     ·exact h'
     ·rw[Wi (by simpa [QbD] using h')]at w;cases w
    unfold QbD at w
    rw[Wh,VH A]at w
    injection w with w
    subst w
    have R:(j+1)*c.size<=len*c.size:=Wy _ A
    rw[Vm]at R
    refine ⟨by rw[Wf,Wv,W,D];omega,λq d g=>?_⟩
    rw[WM]at g
    split at g
    ·rwa [WW]at g
    ·cases g
 ·have:p.1∈us:=by rw[<- k];exact Vc K
  obtain h:p.1=nxt:=by simpa using h
  exact I (h▸this)
def elsF(sto:Sto):DV->Option (List (List DV)×List Nat)
 | .lit (.slice none 0 0)=>some ([],[])
 | .sl xs=>some (xs,[])
 | .own s off len=>match sto.get s with
  | some ob=>if ob.arr=true/\off+len<=ob.els.length then some ((ob.els.drop off).take len,[s]) else none
  | none=>none
 | _=>none
structure VCells(m:Mem)(v:Value)(sz:Nat)(ys:List (List DV)):Prop where
 ex:∃ ad c,v = .slice ad ys.length c/\(ys=[]\/∃ b off,∃ news:List Value,ad=some ⟨b,off,none⟩/\news.length=ys.length*sz/\(∀ j u,news[j]?=some u->m.w.cell? ((⟨b,off,none⟩:Addr).add j)=some u)/\(∀ u∈news,u.oneCell'=true) /\
  ∀ (i:Nat) y (j:Nat) d,ys[i]?=some y->y[j]?=some d->∃ u,news[i*sz+j]?=some u/\PRep m.w m.no u d)
theorem vcells_mk{b off c sz:Nat}{ys:List (List DV)}(s:0<sz)(l:∀ y∈ys,y.length=sz)(f:Nat->Nat->Value)(o:∀ (i:Nat) y (j:Nat) d,ys[i]?=some y->y[j]?=some d->m.w.cell? ⟨b,off+i*sz+j,none⟩=some (f i j)/\PRep m.w m.no (f i j) d):VCells m (.slice (some ⟨b,off,none⟩) ys.length c) sz ys:=by
 have at_:∀ p,p<ys.length*sz->p/sz<ys.length/\p%sz<sz/\p/sz*sz+p%sz=p:=λp e =>
  ⟨Vy (by rw[VG];exact e),UJ _ s,Nat.div_add_mod' p sz⟩
 have k:∀ p,p<ys.length*sz->∃ y d,ys[p/sz]?=some y/\y[p%sz]?=some d:=λp e=>by obtain ⟨r,x,_⟩:=at_ p e;have a:=l ys[p/sz] (Wc r);exact ⟨_,_,Wa r,Wa Oo⟩
 refine ⟨_,c,rfl,.inr ⟨b,off,(List.range (ys.length*sz)).map λp=>f (p/sz) (p%sz),rfl,Os,λp u g=>?_,λu g=>?_,λi y j d a h=>?_⟩⟩
 ·have e:p<ys.length*sz:=by
   rcases Ws p (ys.length*sz) with h' | h'
   ·exact h'
   ·rw[Wi (by simpa using h')]at g;cases g
  rw[Wh,VH e]at g;injection g with g;obtain ⟨y,d,a,h⟩:=k p e;have:=(o _ y _ d a h).1;rw[show off+p/sz*sz+p%sz=off+p by have:=(at_ p e).2.2;omega]at this;rw[add_lit,this,<- g]
 ·obtain ⟨p,e,rfl⟩:=Wm.1 g;obtain ⟨y,d,a,h⟩:=k p (WE.1 e);exact Qec (o _ y _ d a h).2
 ·have t:i<ys.length:=by
   rcases Ws i ys.length with h' | h'
   ·exact h'
   ·rw[Wi h']at a;cases a
  have q:j<sz:=by
   rw[<- l y (Wq a)];rcases Ws j y.length with h' | h'
   ·exact h'
   ·rw[Wi h']at h;cases h
  have n:(i+1)*sz<=ys.length*sz:=Wy _ t;rw[Vm]at n;refine ⟨f i j,?_,(o i y j d a h).2⟩;rw[Wh,VH Oo];have v:(i*sz+j)/sz=i:=by rw[VG,Nat.mul_add_div s,Yo q,Vz]
  have w:(i*sz+j)%sz=j:=by rw[VG,Nat.mul_add_mod,VE q]
  rw[Wx,v,w]
theorem els_vals{v:Value}{x:DV}{sz:Nat}(J:0<sz)(w:Rep m v x){ys:List (List DV)}{I:List Nat}(h:elsF sto x=some (ys,I))(V:QZ m sto I)(k:∀ y∈ys,y.length=sz):VCells m v sz ys:=by
 unfold elsF at h;split at h
 ·injection h with h;injection h with o E;subst o;rw[w.lit_inv];exact ⟨none,0,rfl,.inl rfl⟩
 ·injection h with h;injection h with o E;subst o;rename_i xs;obtain ⟨L,p,rfl,M,N,F⟩:=w.sl_inv.sl_inv;by_cases n:xs=[]
  ·exact ⟨L,p,rfl,.inl n⟩
  ·obtain ⟨b,off,B,f,rfl,W,X,Y,O,P,Q⟩:=F n;have:B=sz:=by
    cases xs with
    | nil=>exact absurd rfl n
    | cons y ys=>rw[<- O 0 y rfl];exact k y Os
   subst this;exact vcells_mk J k f λi y j d q z=>⟨P i y j d q z,Q i y j d q z⟩
 ·rename_i s off len;split at h
  ·rename_i ob hob;split at h
   ·rename_i hc;obtain ⟨R,Z⟩:=hc;injection h with h;injection h with o E;subst o;subst E;have a:((ob.els.drop off).take len).length=len:=by rw[Wf,Wv];omega
    obtain ⟨e,M,N,F,C⟩:=Jm w (V s Os ob hob);rcases C with ⟨g,p,C,rfl,H,D⟩ | ⟨C,rfl,rfl,rfl,H,D⟩
    ·by_cases q:(ob.els.drop off).take len=[]
     ·refine ⟨_,_,by rw[a],.inl q⟩
     ·have l:∀ (i:Nat) x,((ob.els.drop off).take len)[i]?=some x->ob.els[off+i]?=some x:=λi x n=>by
       rw[WM]at n;split at n
       ·rwa [WW]at n
       ·cases n
      have A:ob.esz=sz:=by
       cases hq:(ob.els.drop off).take len with
       | nil=>exact absurd hq q
       | cons y ys =>have o:=l 0 y (by rw[hq];rfl);rw[<- D.sz _ y o];exact k y (by rw[hq];simp)
      obtain ⟨t,T,S,c2,U⟩:=D.cells;have r:=vcells_mk (m:=m) (b:=g) (off:=off*ob.esz) (c:=p-off) J k (λi j=>t.getD ((off+i)*ob.esz+j) undef) λi y j d q z=>by
       obtain ⟨u,G,w⟩:=U _ y j d (l i y q) z;have K:off*ob.esz+i*sz+j=(off+i)*ob.esz+j:=by rw[Vk,A]
       rw[cell_of_row m.w g _ t T (0,0) S,K,G,Vv,G];refine ⟨rfl,?_⟩;have:=w.2;rw[R]at this;exact this
      rw[a]at r;exact r
    ·refine ⟨none,0,by rw[a],.inl ?_⟩;rw[H];rfl
   ·cases h
  ·cases h
 ·cases h
theorem JZ(w:World)(t g e:TypeId)(i:TypeInfo)(f:P.underlying t=some (.slice e))(j:P.info? e=some i)(b:Option Addr)(a d:Nat)(h:a<=d)(ad:Option Addr)(c:Nat) :
  (Builtin.append_ #[t,t] g #[.slice b a d,.slice ad 0 c]).run P w = .ok (.slice b a d) w:=by cases ad <;> cases b <;> simp[Builtin.append_,run_underlying f,sizeOf,typeInfo,j,Builtin.lenOf,Builtin.firstCells,h,storeCells,loadCells,loadCellsFrom]
theorem run_append_room'(w:World)(t s e T:TypeId)(i:TypeInfo)(r:P.underlying t=some (.slice e))(x:P.info? e=some i)
  (g d f:Nat)(cur:Array Value)(v:w.heap[g]?=some (.cells cur T (0,0)))
  (a:Addr)(m c:Nat)(b:List Value)(p:b.length=m*i.size)(h:∀ j u,b[j]?=some u->w.cell? (a.add j)=some u)(q:∀ u∈b,u.oneCell'=true)
  (k:d+m<=f)(n:d*i.size+b.length<=cur.size) :
  (Builtin.append_ #[t,t] s #[.slice (some ⟨g,0,none⟩) d f,.slice (some a) m c]).run P w =
   .ok (.slice (some ⟨g,0,none⟩) (d+m) f) (w.setRow g (cur.toList.take (d*i.size)++b++cur.toList.drop (d*i.size+b.length)).toArray):=by have o:=run_firstCells_some (P:=P) w i.size m a m c b p h;have l:=run_storeCells_at P g (d*i.size) T b 0 cur w v (by simpa using n) q;simp only[Vz]at l;simp[Builtin.append_,run_underlying r,sizeOf,typeInfo,x,Builtin.lenOf,k,o,add_lit,l]
theorem row_twoR{m':Mem}{ar:Bool}{g cap T sz:Nat}{cur:Array Value}(n:m'.w.heap[g]?=some (.cells cur T (0,0)))(m:cur.size=cap*sz)(h:cap<=maxLen)(l:0<sz){xs ys:List (List DV)}(o:xs.length+ys.length<=cap)
  (b:∀ (i:Nat) x,xs[i]?=some x->x.length=sz/\∀ (j:Nat) d,x[j]?=some d->∃ u,cur[i*sz+j]?=some u/\Qhl m' ar u d)
  (k:∀ (i:Nat) y,ys[i]?=some y->y.length=sz/\∀ (j:Nat) d,y[j]?=some d->∃ u,cur[(xs.length+i)*sz+j]?=some u/\Qhl m' ar u d):Row m' ⟨sz,ar,false,xs++ys⟩ g cap:=by
 have a:∀ (i:Nat) z,(xs++ys)[i]?=some z->z.length=sz/\∀ (j:Nat) d,z[j]?=some d->∃ u,cur[i*sz+j]?=some u/\Qhl m' ar u d:=λi z c=>by
  by_cases e:i<xs.length
  ·rw[WF e]at c;exact b i z c
  ·rw[WC Oo]at c;have:=k _ z c;rwa [show xs.length+(i-xs.length)=i by omega]at this
 exact ⟨⟨cur,T,n,m,λi x j d b f=>(a i x b).2 j d f⟩,by simpa using o,h,l,λi x b=>(a i x b).1⟩
theorem row_two{m':Mem}{g cap T sz:Nat}{cur:Array Value}(f:m'.w.heap[g]?=some (.cells cur T (0,0)))(e:cur.size=cap*sz)(a:cap<=maxLen)(c:0<sz){xs ys:List (List DV)}(h:xs.length+ys.length<=cap)
  (k:∀ (i:Nat) x,xs[i]?=some x->x.length=sz/\∀ (j:Nat) d,x[j]?=some d->∃ u,cur[i*sz+j]?=some u/\Qhl m' true u d)
  (b:∀ (i:Nat) y,ys[i]?=some y->y.length=sz/\∀ (j:Nat) d,y[j]?=some d->∃ u,cur[(xs.length+i)*sz+j]?=some u/\Qhl m' true u d):Row m' ⟨sz,true,false,xs++ys⟩ g cap:=row_twoR f e a c h k b
theorem own_mem{a:World}{M:Nat->Prop}{σ:Nat->Option (Option Ent)}{s:Nat}{e:Ent}{g cap len:Nat}(c:σ s=some (some e))(d:e.blk=some (g,cap))(f:len<=cap)(b:cap<=maxLen):Rep ⟨a,M,σ⟩ (.slice (some ⟨g,0,none⟩) len cap) (.own s 0 len):=by have:=Rep.own (m:=⟨a,M,σ⟩) (off:=0) (len:=len) c d Oo b;simpa using this
theorem QbF{s x:Operand}{t:Nat}{u v r:Value}{w b:World}(c:o.op = .call ⟨.builtin .append,#[s,x],#[t,t]⟩)(d:a.eval s=u)(e:a.eval x=v)(h:(Builtin.append_ #[t,t] o.type #[u,v]).run P w = .ok r b) :
  (execOp a.eval o).run P w = .ok (.value r) b:=by simp[execOp,c,resolve,invoke,builtin,d,e,h]
theorem r_appN{t e:Nat}{s x:Operand}{Z f:TyD}{ys:List (List DV)}{Y:List Nat}(J:o.op = .call ⟨.builtin .append,#[s,x],#[t,t]⟩)(ht:QB P t Z)(T:Z.k = .slice e)(he:QB P e f)(hs:opd env s = .lit (.slice none 0 0))(U:elsF sto (opd env x)=some (ys,Y))
  (hz:f.zero.length=f.size)(M:0<f.size)(L:∀ y∈ys,y.length=f.size)(hb:ys.length*f.bytes<=140737488355328)(K:ys.length<=maxLen) :
  Qv P o env sto nxt ⟨.own nxt 0 ys.length,[(nxt,some ⟨f.size,true,false,ys⟩)],Y,1⟩:=.ran λF m a S X hH hF=>by
 have C:=X s (by simp[J,Op.operands,Call.operands])
 have V:=X x (by simp[J,Op.operands,Call.operands])
 rw[hs]at C
 have v:=ht.kind
 rw[T]at v
 obtain ⟨i,z,Q,z2,z3,z4,z5,z6,_⟩:=QbM he
 have N:z.cells.size=f.size:=by rw[<- hz,<- z5];simp
 have q:=hF nxt (Wl _) (by show nxt<nxt+1;omega)
 obtain ⟨ad,c,R,B⟩:=(els_vals M V U hH L).ex
 rcases B with rfl | ⟨b,H,n,rfl,W,n2,n3,n4⟩
 ·have l:=JZ (P:=P) m.w t o.type e i v Q none 0 0 (Wl _) ad c
  have r:=Qdn S q m.w ⟨f.size,none,true,noI⟩ rfl rfl rfl (Wl _) (λ_ _=>rfl) (λg c h=>by cases h)
  refine ⟨.slice none 0 0,⟨m.w,m.M,Z3 m.σ nxt (some ⟨f.size,none,true,noI⟩)⟩,.inl (QbF J C.lit_inv R l),r.1,r.2,.ownNil (Qh _ _ _) rfl,λp A=>?_⟩
  obtain rfl:p=(nxt,some ⟨f.size,true,false,[]⟩):=by simpa using A
  exact ⟨_,Qh _ _ _,rfl,rfl,rfl,M⟩
 ·by_cases I:ys=[]
  ·subst I
   have l:=JZ (P:=P) m.w t o.type e i v Q none 0 0 (Wl _) (some ⟨b,H,none⟩) c
   have r:=Qdn S q m.w ⟨f.size,none,true,noI⟩ rfl rfl rfl (Wl _) (λ_ _=>rfl) (λg c h=>by cases h)
   refine ⟨.slice none 0 0,⟨m.w,m.M,Z3 m.σ nxt (some ⟨f.size,none,true,noI⟩)⟩,.inl (QbF J C.lit_inv R l),r.1,r.2,.ownNil (Qh _ _ _) rfl,λp A=>?_⟩
   obtain rfl:p=(nxt,some ⟨f.size,true,false,[]⟩):=by simpa using A
   exact ⟨_,Qh _ _ _,rfl,rfl,rfl,M⟩
  ·have D:0<ys.length:=List.length_pos_iff.2 I
   have E:(ys.length:Int)<=9223372036854775807:=by unfold maxLen at K;omega
   have l:=run_append_nil (P:=P) m.w t o.type e i z v Q z4 ⟨b,H,none⟩ ys.length c n (by rw[z2];exact W) n2 D E (by rw[z3];omega)
   have G:=grownCap_ge m.w ys.length 0 e
   have w:=grownCap_le_maxLen m.w ys.length 0 e K
   have r:=Qdn S q (m.w.drew.alloc (.cells (n.toArray++Builtin.zeroCells z.cells (grownCap m.w ys.length 0 e-ys.length)) e)) ⟨f.size,some (m.w.heap.size,grownCap m.w ys.length 0 e),true,noI⟩ rfl rfl rfl Os (λk T=>heap_alloc_old m.w.drew _ (by simpa using T)) (λg c h=>by
    injection h with h
    injection h with C V
    subst C
    exact ⟨Wl _,Os⟩)
   refine ⟨_,_,.inl (QbF J C.lit_inv R l),r.1,r.2,?_,λp A=>?_⟩
   ·exact own_mem (Qh _ _ _) rfl Oo w
   ·obtain rfl:p=(nxt,some ⟨f.size,true,false,ys⟩):=by simpa using A
    suffices this:Row _ _ _ _ from QH.of (Qh _ _ _) rfl rfl rfl this (this.deep rfl _)
    have:=row_two (m':=⟨m.w.drew.alloc (.cells (n.toArray++Builtin.zeroCells z.cells (grownCap m.w ys.length 0 e-ys.length)) e),m.M,Z3 m.σ nxt (some ⟨f.size,some (m.w.heap.size,grownCap m.w ys.length 0 e),true,noI⟩)⟩) (xs:=[]) (ys:=ys) (sz:=f.size) (heap_alloc_new m.w.drew _) (by
     simp only[VY,Vq,size_zeroCells,N,W,<- Vk]
     congr 1
     omega) w M (by simpa using G) (λi x U=>by simp at U) (λi y I=>⟨L y (Wq I),λj d hd=>by
     obtain ⟨u,v,A⟩:=n4 i y j d I hd
     have O:i*f.size+j<n.length:=by
      rcases Ws (i*f.size+j) n.length with h' | h'
      ·exact h'
      ·rw[Wi h']at v;cases v
     refine ⟨u,by rw[VN,W0,Uc (by simpa using O)];simpa using v,Qec A,A.ext r.2.size r.2.keep⟩⟩)
    exact this
theorem app_raw{t e:Nat}{s x:Operand}{tt k:TyD}{len n c:Nat}{W:Ent}{ad:Option Addr}{d:List Value}(U:o.op = .call ⟨.builtin .append,#[s,x],#[t,t]⟩)(ht:QB P t tt)(hk:tt.k = .slice e)(he:QB P e k)
  (hs:(∃ g cap,W.blk=some (g,cap)/\a.eval s = .slice (some ⟨g,0,none⟩) len cap/\len<=cap/\cap<=maxLen/\∃ cur T,m.w.heap[g]?=some (.cells cur T (0,0))/\cur.size=cap*k.size)\/(W.blk=none/\a.eval s = .slice none 0 0/\len=0))
  (V:a.eval x = .slice ad n c)(hn:n=0\/∃ b off,ad=some ⟨b,off,none⟩/\d.length=n*k.size/\(∀ j u,d[j]?=some u->m.w.cell? ((⟨b,off,none⟩:Addr).add j)=some u)/\∀ u∈d,u.oneCell'=true)
  (hz:k.zero.length=k.size)(h0:0<k.size)(hb:(len+n)*k.bytes<=140737488355328)(H:len+n<=maxLen) :
  ∃ v w',(execOp a.eval o).run P m.w = .ok (.value v) w'/\w'.os=m.w.os/\w'.tape=m.w.tape/\w'.output=m.w.output/\m.w.heap.size<=w'.heap.size/\(∀ j,j<m.w.heap.size->(∀ c,W.blk≠some (j,c))->w'.heap[j]?=m.w.heap[j]?) /\
   ((v = .slice none 0 0/\len=0/\n=0)\/∃ g' cap' cur' T',v = .slice (some ⟨g',0,none⟩) (len+n) cap'/\((∃ c',W.blk=some (g',c'))\/(m.w.heap.size<=g'/\g' < w'.heap.size))/\len+n<=cap'/\cap'<=maxLen/\w'.heap[g']?=some (.cells cur' T' (0,0))/\cur'.size=cap' * k.size /\
    (∀ p g cap cur T,W.blk=some (g,cap)->m.w.heap[g]?=some (.cells cur T (0,0))->p<len*k.size->cur'[p]?=cur[p]?)/\(0<n->∀ p,p<d.length->cur'[len*k.size+p]?=d[p]?)):=by
 have A:=ht.kind;rw[hk]at A;obtain ⟨i,z,R,O,z3,z4,z5,z6,_⟩:=QbM he;have Q:z.cells.size=k.size:=by rw[<- hz,<- z5];simp
 rcases hs with ⟨g,cap,K,y,Z,k6,cur,T,M,c2⟩ | ⟨K,y,rfl⟩
 ·rcases V5 n with rfl | hpos
  ·refine ⟨_,m.w,QbF U y V (JZ (P:=P) m.w t o.type e i A R (some ⟨g,0,none⟩) len cap Z ad c),rfl,rfl,rfl,Wl _,λ_ _ _=>rfl,.inr ⟨g,cap,cur,T,rfl,.inl ⟨cap,K⟩,Z,k6,M,c2,λp g1 E F T1 f q _=>?_,λh=>absurd h (Y8 0)⟩⟩;rw[K]at f;injection f with f;injection f with f;subst f;rw[M]at q;injection q with q;injection q with q;rw[q]
  ·rcases hn with rfl | ⟨b,off,rfl,N,X,n3⟩
   ·exact absurd hpos (Y8 0)
   by_cases w:len+n<=cap
   ·have B:len*i.size+d.length<=cur.size:=by rw[N,c2,O,<- Vk];exact Wy _ w
    have l:=run_append_room' (P:=P) m.w t o.type e T i A R g len cap cur M ⟨b,off,none⟩ n c d (by rw[O];exact N) X n3 w B;rw[O]at l B;have I:∀ p,(cur.toList.take (len*k.size)++d++cur.toList.drop (len*k.size+d.length)).toArray[p]?=if p<len*k.size then cur[p]? else if p<len*k.size+d.length then d[p-len*k.size]? else cur[p]?:=λp=>by have:=QeJ cur.toList d (len*k.size) (by simpa using B) p;simpa using this
    refine ⟨_,_,QbF U y V l,rfl,rfl,rfl,Os,λj Y h=>setRow_other _ g j _ λaa=>h cap (aa▸K),.inr ⟨g,cap,_,T,rfl,.inl ⟨cap,K⟩,w,k6,setRow_heap m.w g cur _ T _ M,?_,λp g1 E F T1 f q S=>?_,λ_ p S=>?_⟩⟩
    ·simp only[Vq,We,Wf,Wv,Wt];omega
    ·rw[K]at f;injection f with f;injection f with f;subst f;rw[M]at q;injection q with q;injection q with q;rw[I,if_pos S,q]
    ·rw[I,if_neg Oo,if_pos Oo,V9]
   ·have L:∀ j u,(cur.toList.take (len*k.size))[j]?=some u->m.w.cell? ((⟨g,0,none⟩:Addr).add j)=some u:=λj u A=>by
     rw[WM]at A;split at A
     ·rw[add_lit,W0,cell_of_row m.w g j cur T (0,0) M];simpa using A
     ·cases A
    have r:(cur.toList.take (len*k.size)).length=len*k.size:=by rw[Wf,Wt,c2];exact W5 (Wy _ Z)
    have C:((len+n:Nat):Int)<=9223372036854775807:=by unfold maxLen at H;omega
    have l:=run_append_grow (P:=P) m.w t o.type e i z A R z4 ⟨g,0,none⟩ len cap (cur.toList.take (len*k.size)) (by rw[O];exact r) L ⟨b,off,none⟩ n c d (by rw[O];exact N) X Oo C (by rw[z3];exact growslice_fits Oo hb);have J:=grownCap_ge m.w (len+n) cap e;have D:=grownCap_le_maxLen m.w (len+n) cap e H;generalize hG:grownCap m.w (len+n) cap e=G at *;refine ⟨_,_,QbF U y V l,rfl,rfl,rfl,Os,λj Y _=>heap_alloc_old m.w.drew _ (by simpa using Y),.inr ⟨m.w.heap.size,G,_,e,rfl,.inr ⟨Wl _,Os⟩,J,D,heap_alloc_new m.w.drew _,?_,λp g1 E F T1 f q S=>?_,λ_ p S=>?_⟩⟩
    ·simp only[VY,Vq,size_zeroCells,Q,N,r,<- Vk];congr 1;omega
    ·rw[K]at f;injection f with f;injection f with f;subst f;rw[M]at q;injection q with q;injection q with q;rw[Array.append_assoc,Uc (by rw[Vq,r];omega),UX,UI Oo,<- q];simp
    ·rw[Array.append_assoc,Array.getElem?_append_right (by rw[Vq,r];omega),Vq,r,V9,Uc (by rw[Vq];omega),UX]
 ·rcases V5 n with rfl | hpos
  ·exact ⟨_,m.w,QbF U y V (JZ (P:=P) m.w t o.type e i A R none 0 0 (Wl _) ad c),rfl,rfl,rfl,Wl _,λ_ _ _=>rfl,.inl ⟨rfl,rfl,rfl⟩⟩
  ·rcases hn with rfl | ⟨b,off,rfl,N,X,n3⟩
   ·exact absurd hpos (Y8 0)
   rw[W0]at hb H;have C:(n:Int)<=9223372036854775807:=by unfold maxLen at H;omega
   have l:=run_append_nil (P:=P) m.w t o.type e i z A R z4 ⟨b,off,none⟩ n c d (by rw[O];exact N) X hpos C (by rw[z3];omega);have J:=grownCap_ge m.w n 0 e;have D:=grownCap_le_maxLen m.w n 0 e H;generalize hG:grownCap m.w n 0 e=G at *;refine ⟨_,_,QbF U y V l,rfl,rfl,rfl,Os,λj Y _=>heap_alloc_old m.w.drew _ (by simpa using Y),.inr ⟨m.w.heap.size,G,_,e,by rw[W0],.inr ⟨Wl _,Os⟩,Oo,D,heap_alloc_new m.w.drew _,?_,λp g1 E F T1 f=>?_,λ_ p S=>?_⟩⟩
   ·simp only[VY,Vq,size_zeroCells,Q,N,<- Vk];congr 1;omega
   ·rw[K]at f;cases f
   ·rw[UD,W0,Uc (by rw[Vq];omega),UX]
theorem r_app{t e:Nat}{s x:Operand}{tt l:TyD}{k len:Nat}{z:Ob}{ys:List (List DV)}{rs:List Nat}(ho:o.op = .call ⟨.builtin .append,#[s,x],#[t,t]⟩)(ht:QB P t tt)(hk:tt.k = .slice e)(he:QB P e l)(hs:opd env s = .own k 0 len)(hg:sto.get k=some z)(J:elsF sto (opd env x)=some (ys,rs))
  (hf:z.frz=false)(ha:z.arr=true)(hl:len<=z.els.length)(K:z.esz=l.size)(hz:l.zero.length=l.size)(h0:0<l.size)(V:∀ y∈ys,y.length=l.size)(hb:(len+ys.length)*l.bytes<=140737488355328)(ae:len+ys.length<=maxLen) :
  Qv P o env sto nxt ⟨.own nxt 0 (len+ys.length),[(k,none),(nxt,some ⟨l.size,true,false,z.els.take len++ys⟩)],k :: rs,1⟩:=.ran λF m a hI hE hH hF=>by
 have W:=hE s (by simp[ho,Op.operands,Call.operands])
 have h2:=hE x (by simp[ho,Op.operands,Call.operands])
 rw[hs]at W
 have A:=hF nxt (Wl _) (by show nxt<nxt+1;omega)
 obtain ⟨en,X,k2,k3,G⟩:=Jm W (hH k Os z hg)
 have M:en.mu=true:=by rw[k3,hf];rfl
 have aa:k≠nxt:=λh=>by subst h;rw[A]at X;cases X
 obtain ⟨ad,c,hv,I⟩:=(els_vals h0 h2 J (λs hs=>hH s (Wp _ hs)) V).ex
 have r:(∃ g n,en.blk=some (g,n)/\a.eval s = .slice (some ⟨g,0,none⟩) len n/\len<=n/\n<=maxLen/\∃ w T,m.w.heap[g]?=some (.cells w T (0,0))/\w.size=n*l.size)\/(en.blk=none/\a.eval s = .slice none 0 0/\len=0):=by
  rcases G with ⟨g,n,G,r,k5,S⟩ | ⟨G,r,_,h,_⟩
  ·rw[UD,UR]at r;obtain ⟨w,T,c1,c2,_⟩:=S.cells;rw[K]at c2;exact .inl ⟨g,n,G,r,Oo,S.max,w,T,c1,c2⟩
  ·exact .inr ⟨G,r,h⟩
 have hn:∃ f:List Value,(ys.length=0\/∃ b C,ad=some ⟨b,C,none⟩/\f.length=ys.length*l.size/\(∀ j u,f[j]?=some u->m.w.cell? ((⟨b,C,none⟩:Addr).add j)=some u)/\∀ u∈f,u.oneCell'=true)/\∀ (i:Nat) y (j:Nat) d,ys[i]?=some y->y[j]?=some d->∃ u,f[i*l.size+j]?=some u/\PRep m.w m.no u d:=by
  rcases I with rfl | ⟨b,C,f,n0,n1,n2,n3,n4⟩
  ·exact ⟨[],.inl rfl,λi y j d h=>by simp at h⟩
  ·exact ⟨f,.inr ⟨b,C,n0,n1,n2,n3⟩,n4⟩
 obtain ⟨f,hn,n4⟩:=hn
 obtain ⟨v,L,H,w1,w2,w3,w4,w5,w6⟩:=app_raw ho ht hk he r hv hn hz h0 hb ae
 have D:(z.els.take len).length=len:=by rw[Wf];omega
 have N:∀ {e':Ent},QH ⟨L,m.M,Z3 (Z3 m.σ k none) nxt (some e')⟩ nxt ⟨l.size,true,false,z.els.take len++ys⟩->∀ p∈[(k,none),(nxt,some (⟨l.size,true,false,z.els.take len++ys⟩:Ob))],Upd ⟨L,m.M,Z3 (Z3 m.σ k none) nxt (some e')⟩ p:=λq p hp=>by
  rcases Wu.1 hp with rfl | hp
  ·show Z3 (Z3 m.σ k none) nxt _ k=some none;rw[Zi _ _ aa,Qh]
  ·obtain rfl:=Wn.1 hp;exact q
 rcases w6 with ⟨rfl,h6,h7⟩ | ⟨Y,B,af,T',rfl,q1,q2,q3,q4,q5,q6,q7⟩
 ·have E:=Qd9 hI X M A L ⟨l.size,none,true,noI⟩ w1 w2 w3 w4 w5 (λY c' h=>by cases h)
  refine ⟨_,⟨L,m.M,Z3 (Z3 m.σ k none) nxt (some ⟨l.size,none,true,noI⟩)⟩,.inl H,E.1,E.2,?_,N ⟨_,Qh _ _ _,rfl,rfl,?_⟩⟩
  ·rw[h6,h7];exact .ownNil (Qh _ _ _) rfl
  ·rw[VA.1 h7,h6];exact ⟨Os,h0⟩
 ·have E:=Qd9 hI X M A L ⟨l.size,some (Y,B),true,noI⟩ w1 w2 w3 w4 w5 (λg1 c' h=>by
   injection h with h
   injection h with W h2
   subst W
   exact q1)
  have O:Row ⟨L,m.M,Z3 (Z3 m.σ k none) nxt (some ⟨l.size,some (Y,B),true,noI⟩)⟩ ⟨l.size,true,false,z.els.take len++ys⟩ Y B:=row_two (xs:=z.els.take len) (ys:=ys) q4 q5 q3 h0 (by rw[D];exact q2) (λi x J=>?_) (λi y Z=>⟨V y (Wq Z),λj d U=>?_⟩)
  ·exact ⟨_,_,.inl H,E.1,E.2,own_mem (Qh _ _ _) rfl q2 q3,N (QH.of (Qh _ _ _) rfl rfl rfl O (O.deep rfl _))⟩
  ·rw[WM]at J
   split at J
   ·rename_i hi
    rcases G with ⟨g,n,G,_,k5,S⟩ | ⟨_,_,_,h,_⟩
    ·have hl:=S.sz i x J
     rw[K]at hl
     refine ⟨hl,λj d U=>?_⟩
     obtain ⟨w,T,c1,c2,c3⟩:=S.cells
     rw[K]at c3
     obtain ⟨u,R,hr⟩:=c3 i x j d J U
     have hj:j<l.size:=by
      rcases Ws j x.length with h' | h'
      ·omega
      ·rw[Wi h']at U;cases U
     have ab:(i+1)*l.size<=len*l.size:=Wy _ hi
     rw[Vm]at ab
     rw[ha]at hr
     exact ⟨u,by rw[q6 _ g n w T G c1 Oo];exact R,hr.ext E.2.toExt⟩
    ·omega
   ·cases J
  ·obtain ⟨u,R,hp⟩:=n4 i y j d Z U
   have ac:i*l.size+j<f.length:=by
    rcases Ws (i*l.size+j) f.length with h' | h'
    ·exact h'
    ·rw[Wi h']at R;cases R
   have Q:0<ys.length:=by
    rcases Ws i ys.length with h' | h'
    ·omega
    ·rw[Wi h']at Z;cases Z
   refine ⟨u,?_,Qec hp,hp.ext E.2.size E.2.keep⟩
   rw[D,Vk,Vg,q7 Q _ ac]
   exact R
end
def deps(ops:Array Oper)(i:Nat):List Nat:=((ops[i]?).map (λo=>(o.after.toList.filter (λe=>Region.binds .any e)).map (·.on))).getD []
def backB(ops:Array Oper):Bool:=(List.range ops.size).all λi=>(deps ops i).all λd=>decide (d<i)
def writes(ops:Array Oper)(k:Nat):Bool:=ops.toList.any λo=>o.dst == some k
def apartB(n:Nat)(ops:Array Oper):Bool:=(List.range ops.size).all λi=>(match (ops[i]?).bind (·.dst) with
 | none=>true
 | some d=>decide (d<n) && (List.range ops.size).all λj=>decide (j=i) || ((ops[j]?).bind (·.dst) != some d))
theorem backB_spec{ops:Array Oper}(h:backB ops=true){i:Nat}{o:Oper}(a:ops[i]?=some o){e:Edge}(d:e∈o.after)(f:Region.binds .any e=true):e.on<i:=by
 unfold backB at h;rw[WZ]at h;have b:i<ops.size:=by
  rcases Ws i ops.size with h' | h'
  ·exact h'
  ·rw[Ut h']at a;cases a
 have:=h i (WE.2 b);rw[WZ]at this;have c:=this e.on (by
  unfold deps;rw[a];simp only[Wx,WG,Wm,WX]
  exact ⟨e,⟨by simpa using d,f⟩,rfl⟩)
 simpa using c
theorem Qg2{n:Nat}{ops:Array Oper}(h:apartB n ops=true){i:Nat}{o:Oper}(b:ops[i]?=some o){d:Nat}(l:o.dst=some d) :
  d<n/\∀ j oj,ops[j]?=some oj->j≠i->oj.dst≠some d:=by
 unfold apartB at h;rw[WZ]at h;have a:∀ {i:Nat} {o:Oper},ops[i]?=some o->i<ops.size:=λ{i o} b=>by
  rcases Ws i ops.size with h' | h'
  ·exact h'
  ·rw[Ut h']at b;cases b
 have c:=h i (WE.2 (a b));rw[b]at c;simp only[WB,l,Vh,decide_eq_true_eq,WZ]at c;refine ⟨c.1,λj oj k e f=>?_⟩;have g:=c.2 j (WE.2 (a k));rw[k]at g;simp[e,f]at g
section
variable{P:Program}{ops:Array Oper}{Q:Exit->Act->World->Prop}
structure RFacts(ops:Array Oper)(a0:Act)(G:World->Prop)(F:Nat->Value->World->Prop)(L:Array Bool)(a:Act)(w:World):Prop where
 size:a.tmps.size=a0.tmps.size
 defers:a.defers=a0.defers
 out:∀ k,writes ops k=false->a.tmps[k]?=a0.tmps[k]?
 g:G w
 f:∀ i o,ops[i]?=some o->L.getD i false=true->∃ v,(∀ d,o.dst=some d->a.tmps[d]?=some v)/\F i v w
theorem put_same{a:Act}{d k:Nat}{v:Value}(h:d≠k):(a.put (some d) v).tmps[k]?=a.tmps[k]?:=by simp[Act.put,h]
theorem put_here{a:Act}{d:Nat}{v:Value}(h:d<a.tmps.size):(a.put (some d) v).tmps[d]?=some v:=by simp[Act.put,h]
theorem QfV{a:Act}{d:Option Nat}{v:Value}:(a.put d v).tmps.size=a.tmps.size:=by cases d <;> simp[Act.put]
theorem put_defers'{a:Act}{d:Option Nat}{v:Value}:(a.put d v).defers=a.defers:=by cases d <;> simp[Act.put]
def RStep(P:Program)(ops:Array Oper)(Q:Exit->Act->World->Prop)(b:Act)(G:World->Prop)(E:World->World->Prop)(F:Nat->Value->World->Prop)(i:Nat):Prop := ∀ o,ops[i]?=some o->∀ a w,a.defers=b.defers->(∀ k,writes ops k=false->a.tmps[k]?=b.tmps[k]?)->G w -> (∀ j∈deps ops i,∀ oj,ops[j]?=some oj->∃ v,(∀ d,oj.dst=some d->a.tmps[d]?=some v)/\F j v w) -> ∀ K:Act->World->Prop,(∀ v w',G w'->E w w'->F i v w'->K (a.put o.dst v) w') -> if Region.wanted o (yielded ops a.tmps)=true then Oper.wp P o a w K Q else K (a.put o.dst undef) w
theorem RFacts.put{n:Act}{G:World->Prop}{E:World->World->Prop}{F:Nat->Value->World->Prop}{L:Array Bool}{a:Act}{w f:World}
  (r:apartB n.tmps.size ops=true)(x:∀ j v w f,E w f->F j v w->F j v f)(h:RFacts ops n G F L a w){i:Nat}{o:Oper}(m:ops[i]?=some o){v:Value}(A:G f)(z:E w f)(y:F i v f) :
  RFacts ops n G F (L.setIfInBounds i true) (a.put o.dst v) f:=by
 refine ⟨by rw[QfV];exact h.size,by rw[put_defers'];exact h.defers,λk l=>?_,A,λj p g q=>?_⟩
 ·rw[<- h.out k l];cases c:o.dst with
  | none=>rfl
  | some d =>refine put_same λe=>?_;subst e;unfold writes at l;rw[List.any_eq_false]at l;exact l o (Array.mem_toList_iff.2 (Ym m)) (by simp[c])
 ·by_cases b:j=i
  ·subst b;rw[m]at g;injection g with g;subst g;refine ⟨v,λd c=>?_,y⟩;rw[c];exact put_here (by rw[h.size];exact (Qg2 r m c).1)
  ·rw[getD_set_ne false (Ne.symm b)]at q;obtain ⟨u,s,t⟩:=h.f j p g q;refine ⟨u,λd c=>?_,x _ _ _ _ z t⟩;rw[<- s d c];cases hd':o.dst with
   | none=>rfl
   | some d' =>refine put_same λe=>?_;subst e;exact (Qg2 r m hd').2 j p g b c
theorem ready_nil_all(f:backB ops=true){L:Array Bool}(d:L.size=ops.size)(h:Region.ready .any ops L=[]):∀ i,i<ops.size->L.getD i false=true:=by
 intro i;induction i using Nat.strongRecOn with
 | _ i ih =>
  intro a;cases hL:L.getD i false with
  | true=>rfl
  | false =>
   exfalso;have:i∈Region.ready .any ops L:=by
    refine mem_ready.2 ⟨?_,ops[i],by simp[a],λe c b=>?_⟩
    ·simp[d,a]at hL ⊢;exact hL
    ·have:=backB_spec f (by simp[a]:ops[i]?=some ops[i]) c b;exact ih e.on this Oo
   rw[h]at this;cases this
def cnt(L:Array Bool):Nat:=L.toList.count false
theorem cnt_set{L:Array Bool}{i:Nat}(h:L.getD i true=false):cnt (L.setIfInBounds i true)+1=cnt L:=by
 have b:i<L.size:=by
  rcases Ws i L.size with h' | h'
  ·exact h'
  ·simp[Array.getD,Nat.not_lt.2 h']at h
 have d:L.toList[i]'(by simpa using b)=false:=by simpa [Array.getD,b] using h
 unfold cnt;rw[Yz,List.count_set (by simpa using b)];have a:0<L.toList.count false:=List.count_pos_iff.2 (by rw[<- d];exact Wc _);have c:L[i]=false:=by simpa using d
 simp[c];have e:0<Array.count false L:=by simpa using a
 omega
theorem RStep.mk{l:Act}{G:World->Prop}{E:World->World->Prop}{F:Nat->Value->World->Prop}{i:Nat}{o:Oper}(t:ops[i]?=some o)(u:o.guard=none)
  (h:∀ a w,a.defers=l.defers->(∀ k,writes ops k=false->a.tmps[k]?=l.tmps[k]?)->G w ->
   (∀ j,(deps ops i).contains j=true->∀ oj d,ops[j]?=some oj->oj.dst=some d->∃ v,a.tmps[d]?=some v/\F j v w) ->
   ∀ K:Act->World->Prop,Shut (∀ v w',G w'->E w w'->F i v w'->K (a.put o.dst v) w')->Oper.wp P o a w K Q):RStep P ops Q l G E F i:=by
 intro x b a w p c q e K r;rw[t]at b;injection b with b;subst b;rw[if_pos (by unfold Region.wanted;rw[u])];refine h a w p c q (λj s oj d f g=>?_) K r;obtain ⟨v,m,n⟩:=e j (by simpa using s) oj f;exact ⟨v,m d g,n⟩
def RSteps(P:Program)(ops:Array Oper)(Q:Exit->Act->World->Prop)(a:Act)(G:World->Prop)(E:World->World->Prop)(F:Nat->Value->World->Prop)(k:Nat):Prop := ∀ i,k<=i->i<ops.size->RStep P ops Q a G E F i
theorem RSteps.cons{a:Act}{G:World->Prop}{E:World->World->Prop}{F:Nat->Value->World->Prop}{k:Nat}(h:RStep P ops Q a G E F k)(c:RSteps P ops Q a G E F (k+1)):RSteps P ops Q a G E F k :=
 λi h1 b=>by
  rcases Nat.eq_or_lt_of_le h1 with rfl | h1
  ·exact h
  ·exact c i h1 b
theorem RSteps.nil{a:Act}{G:World->Prop}{E:World->World->Prop}{F:Nat->Value->World->Prop}{k:Nat}(d:ops.size<=k):RSteps P ops Q a G E F k:=λi b c=>by omega
theorem RFacts.frame{i:Act}{G:World->Prop}{F:Nat->Value->World->Prop}{L:Array Bool}{a:Act}{w:World}(h:RFacts ops i G F L a w){l:List Value}{ds:List Deferred}(p:i=⟨l.toArray,ds⟩)(m n:Nat)
  (g:∀ k,(k<m\/m+n<=k)->writes ops k=false)(r:m+n<=l.length):∃ us:List Value,us.length=n/\a=⟨(l.take m++us++l.drop (m+n)).toArray,ds⟩/\∀ k,k<n->us[k]?=a.tmps[m+k]?:=by
 subst p;refine ⟨(a.tmps.toList.drop m).take n,?_,?_,λk o=>?_⟩
 ·have:=h.size;simp at this ⊢;omega
 ·have j:=h.size;have c:=h.defers;obtain ⟨t,d⟩:=a;simp at j c;subst c;congr 1;apply Array.ext';apply Ud;intro k;have b:=h.out k;simp at b;simp only[List.getElem?_append,Wf,We,Wv,WM,WW,Wt];by_cases f:k<m
  ·have:=b (g k (.inl f));simp[f,show k<min m l.length by omega,show k<min m l.length+min n (t.size-m) by omega,this]
  ·by_cases q:k<m+n
   ·have e:m+(k-min m l.length)=k:=by omega
    simp[show ¬ k<min m l.length by omega,show k<min m l.length+min n (t.size-m) by omega,show k-min m l.length<n by omega,e]
   ·have:=b (g k (.inr Oo));have e:m+n+(k-(min m l.length+min n (t.size-m)))=k:=by omega
    simp[show ¬ k<min m l.length+min n (t.size-m) by omega,e,this]
 ·simp[o]
end
def Env.put(env:Env):Option Nat->DV->Env
 | none,_=>env
 | some k,d=>(k,d) :: env
def Sto.drop:Sto->Nat->Sto
 | [],_=>[]
 | (j,d) :: l,k=>cond (Nat.beq j k) (Sto.drop l k) ((j,d) :: Sto.drop l k)
def Sto.upd(sto:Sto):List (Nat×Option Ob)->Sto
 | []=>sto
 | (s,some ob) :: l=>(s,ob) :: Sto.upd sto l
 | (s,none) :: l=>(Sto.upd sto l).drop s
def XK:List (Nat×Option Ob)->Nat->Option (Option Ob)
 | [],_=>none
 | (j,x) :: l,s=>cond (Nat.beq s j) (some x) (XK l s)
theorem Env.put_get(env:Env)(k:Nat)(d:DV)(s:Nat):(env.put (some k) d).get s=if s=k then d else env.get s:=by exact Env.get_cons _ _ _ _
theorem Sto.drop_get(sto:Sto)(k s:Nat):(sto.drop k).get s=if s=k then none else sto.get s:=by
 induction sto with
 | nil=>simp[Sto.drop,Sto.get_nil]
 | cons p l ih =>
  obtain ⟨j,d⟩:=p;rw[Sto.drop,JC];by_cases b:j=k
  ·rw[if_pos b,ih];simp only[Sto.get_cons];by_cases a:s=k
   ·simp[a]
   ·rw[if_neg a,if_neg a,if_neg Oo]
  ·rw[if_neg b];simp only[Sto.get_cons,ih];by_cases a:s=j
   ·rw[if_pos a,if_neg Oo,if_pos a]
   ·rw[if_neg a,if_neg a]
theorem Sto.upd_get(sto:Sto)(us:List (Nat×Option Ob))(s:Nat):(sto.upd us).get s=(XK us s).getD (sto.get s):=by
 induction us with
 | nil=>rfl
 | cons p l ih =>
  obtain ⟨j,x⟩:=p;cases x with
  | none =>simp only[Sto.upd,XK,JC,Sto.drop_get,ih];by_cases a:s=j <;> simp[a]
  | some ob =>simp only[Sto.upd,XK,JC,Sto.get_cons,ih];by_cases a:s=j <;> simp[a]
theorem Qce{us:List (Nat×Option Ob)}{s:Nat}(h:s∉us.map (·.1)):XK us s=none:=by
 induction us with
 | nil=>rfl
 | cons p l ih =>obtain ⟨j,x⟩:=p;simp only[Vj,Wu,not_or]at h;simp only[XK,JC,if_neg h.1,ih h.2]
theorem Qgk{us:List (Nat×Option Ob)}{s:Nat}{x:Option Ob}(h:XK us s=some x):(s,x)∈us:=by
 induction us with
 | nil=>cases h
 | cons p l ih =>
  obtain ⟨j,y⟩:=p;simp only[XK,JC]at h;split at h
  ·rename_i hs;injection h with h;subst hs;subst h;simp
  ·exact Wp _ (ih h)
theorem updGet_in{us:List (Nat×Option Ob)}{s:Nat}(h:s∈us.map (·.1)):∃ x,XK us s=some x:=by
 induction us with
 | nil=>cases h
 | cons p l ih =>
  obtain ⟨j,y⟩:=p;simp only[XK,JC];by_cases a:s=j
  ·exact ⟨y,by rw[if_pos a]⟩
  ·rw[if_neg a];exact ih (by simpa [a] using h)
def Off(out:Out):Prop:=out=⟨.any,[],[],0⟩\/out=⟨.tup [],[],[],0⟩
theorem Off.rep{out:Out}(h:Off out)(m:Mem):Rep m undef out.d:=by
 rcases h with rfl | rfl
 ·exact .any _
 ·exact .tup (vs:=[]) rfl λi v d a=>by simp at a
theorem Off.us{out:Out}(h:Off out):out.us=[]:=by rcases h with rfl | rfl <;> rfl
def Qer(P:Program)(ops:Array Oper)(o:Oper)(env:Env)(sto:Sto)(nxt:Nat)(out:Out):Prop :=
 match o.guard with
 | none=>Qv P o env sto nxt out
 | some (g,b)=>∃ t,(ops[g]?).bind (·.dst)=some t/\((env.get t = .lit (.bool b)/\Qv P o env sto nxt out)\/((env.get t = .lit (.bool (!b))\/env.get t = .tup [])/\Off out)\/∃ c:Bool,env.get t = .lit (.bool c)/\out.us=[]/\out.n=0/\(c=b->Qv P o env sto nxt out)/\(c=(!b)->out.d = .any))
inductive Run(P:Program)(ops:Array Oper):List Oper->Env->Sto->Nat->List (Out×Nat)->Env->Sto->Nat->Prop
 | nil {env:Env} {sto:Sto} {nxt:Nat}:Run P ops [] env sto nxt [] env sto nxt
 | cons {o:Oper} {rest:List Oper} {env:Env} {sto:Sto} {nxt:Nat} {out:Out} {outs:List (Out×Nat)} {env':Env} {sto':Sto} {nxt':Nat}:Qer P ops o env sto nxt out ->
   Run P ops rest (env.put o.dst out.d) (sto.upd out.us) (nxt+out.n) outs env' sto' nxt'->Run P ops (o :: rest) env sto nxt ((out,nxt) :: outs) env' sto' nxt'
structure DSt where
 env:Env
 sto:Sto
 nxt:Nat
structure Cx where
 F:Fm
 M:Nat->Prop
 nt:Nat
 n0:Nat
 σ0:Nat->Option (Option Ent)
def QeC(σ a:Nat->Option (Option Ent)):Prop:=∀ s x,σ s=some x->∃ x',a s=some x'/\∀ e',x'=some e'->∃ e,x=some e/\e'.esz=e.esz/\e'.blk=e.blk
theorem QeC.trans{a b c:Nat->Option (Option Ent)}(h:QeC a b)(k:QeC b c):QeC a c:=λs x v=>by obtain ⟨e,f,g⟩:=h s x v;obtain ⟨i,j,l⟩:=k s e f;refine ⟨i,j,λw d=>?_⟩;obtain ⟨m,n,o,p⟩:=l w d;obtain ⟨q,r,t,u⟩:=g m n;exact ⟨q,r,o.trans t,p.trans u⟩
structure SimM(C:Cx)(env:Nat->DV)(sto:Nat->Option Ob)(m:Mem)(a:Act):Prop where
 inv:Inv C.F m
 M:m.M=C.M
 size:a.tmps.size=C.nt
 defers:a.defers=[]
 org:QeC C.σ0 m.σ
 lim0:∀ s,C.n0<=s->C.σ0 s=none
 env:∀ k,Rep m (a.tmps.getD k undef) (env k)
 sto:∀ s ob,sto s=some ob->QH m s ob
def Sim(C:Cx)(b:DSt)(a:Act)(w:World):Prop:=∃ m:Mem,m.w=w/\SimM C b.env.get b.sto.get m a/\∀ s,b.nxt<=s->m.σ s=none
section
variable{P:Program}{C:Cx}
theorem put_getD{a:Act}{d:Option Nat}{v:Value}{k:Nat}:(a.put d v).tmps.getD k undef=if d=some k/\k<a.tmps.size then v else a.tmps.getD k undef:=by
 cases d with
 | none=>simp[Act.put]
 | some j =>
  simp only[Act.put,Vv,Array.getElem?_setIfInBounds,Wz];by_cases b:j=k
  ·subst b;by_cases c:j<a.tmps.size
   ·simp[c]
   ·simp[c]
  ·simp[b]
theorem SimM.step{ops:Array Oper}{o:Oper}{env:Env}{sto:Sto}{nxt:Nat}{out:Out}(f:Qer P ops o env sto nxt out){E:Nat->DV}{S:Nat->Option Ob}{m:Mem}{a:Act}(e:SimM C E S m a)
  (X:∀ x∈o.op.operands,∀ t,x = .tmp t->E t=env.get t)(R:∀ g b t,o.guard=some (g,b)->(ops[g]?).bind (·.dst)=some t->E t=env.get t)(Y:∀ s∈out.rs,S s=sto.get s)(Z:Fresh m nxt out.n)(O:∀ d,o.dst=some d->d<C.nt)
  {K:Act->World->Prop}{Q:Exit->Act->World->Prop}
  (M:∀ a' m',SimM C (λk=>if o.dst=some k then out.d else E k) (λs=>(XK out.us s).getD (S s)) m' a'->Loc (out.us.map (·.1)) m m'->K a' m'.w) :
  if Region.wanted o (yielded ops a.tmps)=true then Oper.wp P o a m.w K Q else K (a.put o.dst undef) m.w:=by
 have fin:Qv P o env sto nxt out->Oper.wp P o a m.w K Q:=λU=>by
  refine U C.F m a e.inv (λx r=>opd_rep λt w=>?_) (λs f B I=>e.sto s B ((Y s f).trans I)) Z K Q λv m' h1 l V W=>M (a.put o.dst v) m' ⟨h1,l.M.trans e.M,by rw[QfV];exact e.size,by rw[put_defers'];exact e.defers,e.org.trans l.ent,e.lim0,λk=>?_,λs B f=>?_⟩ l
  ·rw[<- X x r t w];exact e.env t
  ·rw[put_getD];by_cases i:o.dst=some k
   ·have:=O k i;rw[if_pos ⟨i,by rw[e.size];exact this⟩,if_pos i];exact V
   ·rw[if_neg (λh=>i h.1),if_neg i];exact (e.env k).ext l.toExt
  ·cases q:XK out.us s with
   | some x =>rw[q]at f;have:=W _ (Qgk q);simp only[WG]at f;subst f;exact this
   | none =>rw[q]at f;refine QH.loc e.inv l (λJ=>?_) (e.sto s B f);obtain ⟨x,r⟩:=updGet_in J;rw[q]at r;cases r
 unfold Qer at f;cases hg:o.guard with
 | none =>rw[hg]at f;rw[if_pos (by unfold Region.wanted;rw[hg])];exact fin f
 | some p =>
  obtain ⟨g,b⟩:=p;rw[hg]at f;obtain ⟨t,w,f⟩:=f;have D:∀ c:Bool,env.get t = .lit (.bool c)->yielded ops a.tmps g=some c:=λc L=>by
   have y:=e.env t;rw[R g b t hg w,L]at y;have j:=y.lit_inv;unfold yielded;rw[w,WB];rw[Vv]at j;cases hh:a.tmps[t]? with
   | none=>rw[hh]at j;simp[undef]at j
   | some u=>rw[hh]at j;simp only[WG]at j;subst j;rfl
  have N:env.get t = .tup []->yielded ops a.tmps g=none:=λL=>by
   have y:=e.env t;rw[R g b t hg w,L]at y;obtain ⟨vs,j,hl,_⟩:=y.tup_inv;unfold yielded;rw[w,WB];rw[Vv]at j;cases hh:a.tmps[t]? with
   | none=>rfl
   | some u=>rw[hh]at j;simp only[WG]at j;subst j;rfl
  rcases f with ⟨h1,l⟩ | ⟨h1,l⟩ | ⟨c,h1,q,N,F,G⟩
  ·rw[if_pos (by unfold Region.wanted;rw[hg];dsimp only;rw[D b h1];simp)];exact fin l
  ·have T:Region.wanted o (yielded ops a.tmps)=false:=by
    unfold Region.wanted;rw[hg];dsimp only;rcases h1 with h1 | h1
    ·rw[D _ h1];cases b <;> rfl
    ·rw[N h1];rfl
   rw[if_neg (by rw[T];decide)];refine M _ m ⟨e.inv,e.M,by rw[QfV];exact e.size,by rw[put_defers'];exact e.defers,e.org,e.lim0,λk=>?_,λs B f=>?_⟩ (by rw[l.us];exact Loc.refl _ _)
   ·rw[put_getD];by_cases i:o.dst=some k
    ·rw[if_pos i];split
     ·exact l.rep m
     ·rename_i r;exact absurd ⟨i,by rw[e.size];exact O k i⟩ r
    ·rw[if_neg (λh=>i h.1),if_neg i];exact e.env k
   ·rw[l.us]at f;exact e.sto s B f
  ·by_cases H:c=b
   ·subst H;rw[if_pos (by unfold Region.wanted;rw[hg];dsimp only;rw[D c h1];simp)];exact fin (F rfl)
   ·have z:c=(!b):=by cases c <;> cases b <;> simp_all
    have A:=G z;subst z;rw[if_neg (by unfold Region.wanted;rw[hg];dsimp only;rw[D _ h1];cases b <;> simp)];obtain ⟨d,us,rs,n⟩:=out;dsimp only at q A;subst q;subst A;refine M _ m ⟨e.inv,e.M,by rw[QfV];exact e.size,by rw[put_defers'];exact e.defers,e.org,e.lim0,λk=>?_,e.sto⟩ (Loc.refl _ _);rw[put_getD];by_cases i:o.dst=some k
    ·rw[if_pos i];exact .any _
    ·rw[if_neg (λh=>i h.1),if_neg i];exact e.env k
theorem SimM.eq{E c:Nat->DV}{S b:Nat->Option Ob}{m:Mem}{a:Act}(h:SimM C E S m a)(d:∀ k,c k=E k)(e:∀ s,b s=S s):SimM C c b m a:=by rw[funext d,funext e];exact h
def seqB(nt:Nat):List Oper->List (Out×Nat)->Bool
 | o :: l,(out,nx) :: r=>(match o.dst with | some d=>decide (d<nt) | none=>true) && (out.us.all λp=>decide (p.1<nx+out.n)) && seqB nt l r
 | [],[]=>true
 | _,_=>false
theorem run_seq{ops:Array Oper}{l:List Oper}{env e:Env}{sto c:Sto}{nxt b:Nat}{outs:List (Out×Nat)}(h:Run P ops l env sto nxt outs e c b)(u:seqB C.nt l outs=true){Q:Exit->Act->World->Prop}
  (v:∀ a w,Sim C ⟨e,c,b⟩ a w->Q .normal a w):∀ a w,Sim C ⟨env,sto,nxt⟩ a w->wpList P ops Q l a w:=by
 induction h with
 | nil=>exact v
 | @cons o rest env sto nxt out outs e c b g _ ih =>
  simp only[seqB,Vh]at u;obtain ⟨⟨q,x⟩,y⟩:=u;intro a w ⟨m,hw,hm,hF⟩;subst hw;refine wpList_step λK A=>hm.step g (λ_ _ _ _=>rfl) (λ_ _ _ _ _=>rfl) (λ_ _=>rfl) (λs i _=>hF s i) (λd r=>by rw[r]at q;simpa using q) λt j i B=>A t j.w (ih y v t j.w ⟨j,rfl,i.eq (λk=>?_) λs=>Sto.upd_get _ _ _,λs g=>?_⟩)
  ·cases r:o.dst with
   | none=>simp[Env.put]
   | some d =>
     simp only[Env.put_get,Wz];by_cases f:d=k
     ·rw[if_pos f,if_pos f.symm]
     ·rw[if_neg f,if_neg (Ne.symm f)]
  ·rw[B.same s λn=>?_]
   ·exact hF s (by dsimp only at g ⊢;omega)
   ·obtain ⟨p,z,rfl⟩:=Wm.1 n;have:=WZ.1 x p z;simp only[decide_eq_true_eq]at this;dsimp only at g;omega
def opTmps(o:Oper):List Nat:=o.op.operands.toList.filterMap λ| .tmp t=>some t | _=>none
def meets(x y:List Nat):Bool:=x.any λk=>y.contains k
def QgX(K:List Nat)(ops:Array Oper)(o p:Oper)(x y:Out×Nat):Bool :=
 let t:=λ(o:Oper)=>o.dst.toList
 let g:=λ(o:Oper)=>(match o.guard with | some (g,_)=>((ops[g]?).bind (·.dst)).toList | none=>[])
 let W:=λ(x:Out×Nat)=>(x.1.us.map (·.1)).filter (λs=>!K.contains s)++List.range' x.2 x.1.n
 meets (t o) (opTmps p++g p++t p) || meets (t p) (opTmps o++g o) || meets (W x) (y.1.rs++W y) || meets (W y) x.1.rs
def reach(ops:Array Oper):Nat->Nat->Nat->Bool
 | 0,_,_=>false
 | n+1,j,i=>(deps ops j).any λd=>d == i || (decide (i<d) && reach ops n d i)
def ordK(K:List Nat)(ops:Array Oper)(outs:List (Out×Nat)):Bool :=
 (List.range ops.size).all λj=>(List.range j).all λi=>match ops[i]?,ops[j]?,outs[i]?,outs[j]? with
  | some o,some p,some x,some y=>!QgX K ops o p x y || reach ops ops.size j i
  | _,_,_,_=>false
def ordB(ops:Array Oper)(outs:List (Out×Nat)):Bool:=ordK [] ops outs
def cst1(sto:Sto)(s:Nat):List (Out×Nat)->Prop
 | []=>True
 | x :: l=>(XK x.1.us s=none\/XK x.1.us s=some (sto.get s))/\cst1 sto s l
def cstP(sto:Sto)(nxt:Nat)(outs:List (Out×Nat)):List Nat->Prop
 | []=>True
 | s :: K=>(Nat.blt s nxt=true/\cst1 sto s outs)/\cstP sto nxt outs K
theorem cst1.get{sto:Sto}{s:Nat}:∀ {outs:List (Out×Nat)},cst1 sto s outs->∀ (i:Nat) (x:Out×Nat),outs[i]?=some x->∀ y,XK x.1.us s=some y->y=sto.get s
 | [],_,i,x,h,_,_=>by simp at h
 | z :: l,h,0,x,b,y,a=>by
  injection b with b;subst b;rcases h.1 with k | k
  ·rw[k]at a;cases a
  ·rw[k]at a;injection a with a;exact a.symm
 | z :: l,h,i+1,x,b,y,a=>cst1.get h.2 i x b y a
theorem cstP.get{sto:Sto}{nxt:Nat}{outs:List (Out×Nat)}:∀ {K:List Nat},cstP sto nxt outs K->∀ s∈K,s<nxt/\∀ (i:Nat) (x:Out×Nat),outs[i]?=some x->∀ y,XK x.1.us s=some y->y=sto.get s
 | [],_,s,hs=>by cases hs
 | k :: K,h,s,hs=>by
  rcases Wu.1 hs with rfl | hs
  ·exact ⟨by simpa [Nat.blt_eq] using h.1.1,h.1.2.get⟩
  ·exact cstP.get h.2 s hs
end
abbrev Qgi:=List (Out×Nat)
def QeZ(l:List Oper)(i:Nat):Option Nat:=(l[i]?).bind (·.dst)
def dAt(outs:Qgi)(i:Nat):DV:=match outs[i]? with | some x=>x.1.d | none=>.any
def usAt(outs:Qgi)(i:Nat):List (Nat×Option Ob):=match outs[i]? with | some x=>x.1.us | none=>[]
def Qa2(l:List Oper)(outs:Qgi)(E:Nat->DV)(L:Nat->Bool)(t:Nat):Nat->DV
 | 0=>E t
 | i+1=>if L i=true/\QeZ l i=some t then dAt outs i else Qa2 l outs E L t i
def Qap(outs:Qgi)(S:Nat->Option Ob)(L:Nat->Bool)(s:Nat):Nat->Option Ob
 | 0=>S s
 | i+1=>if L i=true then(XK (usAt outs i) s).getD (Qap outs S L s i) else Qap outs S L s i
theorem lookE_cons{o:Oper}{l:List Oper}{x:Out×Nat}{outs:Qgi}{E:Nat->DV}{t i:Nat} :
  Qa2 (o :: l) (x :: outs) E (λ_=>true) t (i+1)=Qa2 l outs (λk=>if o.dst=some k then x.1.d else E k) (λ_=>true) t i:=by
 induction i with
 | zero=>simp[Qa2,QeZ,dAt]
 | succ i ih =>
  rw[Qa2,ih];conv=>rhs;rw[Qa2]
  simp only[QeZ,dAt,V7]
theorem lookS_cons{x:Out×Nat}{outs:Qgi}{S:Nat->Option Ob}{s i:Nat} :
  Qap (x :: outs) S (λ_=>true) s (i+1)=Qap outs (λk=>(XK x.1.us k).getD (S k)) (λ_=>true) s i:=by
 induction i with
 | zero=>simp[Qap,usAt]
 | succ i ih =>
  rw[Qap,ih];conv=>rhs;rw[Qap]
  simp only[usAt,V7]
theorem QdO{l:List Oper}{outs:Qgi}{E:Nat->DV}{L:Nat->Bool}{t i n:Nat}(e:i<=n)(d:∀ j,j<i->QeZ l j=some t->L j=true)(b:∀ j,i<=j->j<n->QeZ l j=some t->L j=false) :
  Qa2 l outs E L t n=Qa2 l outs E (λ_=>true) t i:=by
 induction n with
 | zero =>
   obtain rfl:i=0:=by omega
   rfl
 | succ n ih =>
  by_cases c:i=n+1
  ·subst c;clear ih b;have:∀ k,k<=n+1->Qa2 l outs E L t k=Qa2 l outs E (λ_=>true) t k:=by
    intro k;induction k with
    | zero=>intro _;rfl
    | succ k ih =>
     intro f;rw[Qa2,Qa2,ih Oo];by_cases a:QeZ l k=some t
     ·simp[a,d k Oo a]
     ·simp[a]
   exact this _ (Wl _)
  ·rw[Qa2,ih Oo λj h g=>b j h Oo];by_cases a:QeZ l n=some t
   ·simp[b n Oo Oo a]
   ·simp[a]
theorem QdN{outs:Qgi}{S:Nat->Option Ob}{L:Nat->Bool}{s i n:Nat}(e:i<=n)(d:∀ j,j<i->s∈(usAt outs j).map (·.1)->L j=true)(b:∀ j,i<=j->j<n->s∈(usAt outs j).map (·.1)->L j=false) :
  Qap outs S L s n=Qap outs S (λ_=>true) s i:=by
 induction n with
 | zero =>
   obtain rfl:i=0:=by omega
   rfl
 | succ n ih =>
  by_cases c:i=n+1
  ·subst c;clear ih b;have:∀ k,k<=n+1->Qap outs S L s k=Qap outs S (λ_=>true) s k:=by
    intro k;induction k with
    | zero=>intro _;rfl
    | succ k ih =>
     intro f;rw[Qap,Qap,ih Oo];by_cases a:s∈(usAt outs k).map (·.1)
     ·simp[d k Oo a]
     ·simp[Qce a]
   exact this _ (Wl _)
  ·rw[Qap,ih Oo λj h g=>b j h Oo];by_cases a:s∈(usAt outs n).map (·.1)
   ·simp[b n Oo Oo a]
   ·simp[Qce a]
theorem lookE_congr{l:List Oper}{outs:Qgi}{E:Nat->DV}{L b:Nat->Bool}{t n:Nat}(h:∀ j,j<n->QeZ l j=some t->b j=L j):Qa2 l outs E b t n=Qa2 l outs E L t n:=by
 induction n with
 | zero=>rfl
 | succ n ih =>
  rw[Qa2,Qa2,ih λj c=>h j Oo];by_cases a:QeZ l n=some t
  ·simp[a,h n Oo a]
  ·simp[a]
theorem lookS_congr{outs:Qgi}{S:Nat->Option Ob}{L b:Nat->Bool}{s n:Nat}(h:∀ j,j<n->s∈(usAt outs j).map (·.1)->b j=L j):Qap outs S b s n=Qap outs S L s n:=by
 induction n with
 | zero=>rfl
 | succ n ih =>
  rw[Qap,Qap,ih λj c=>h j Oo];by_cases a:s∈(usAt outs n).map (·.1)
  ·simp[h n Oo a]
  ·simp[Qce a]
theorem QgE{outs:Qgi}{S:Nat->Option Ob}{L:Nat->Bool}{s:Nat}:∀ {n:Nat},(∀ i,i<n->∀ y,XK (usAt outs i) s=some y->y=S s)->Qap outs S L s n=S s
 | 0,_=>rfl
 | n+1,h=>by
  unfold Qap;have a:=QgE (L:=L) (n:=n) λi b=>h i Oo;split
  ·cases hu:XK (usAt outs n) s with
   | none=>exact a
   | some y=>exact h n Oo y hu
  ·exact a
theorem lookE_self{l:List Oper}{outs:Qgi}{E:Nat->DV}{L:Nat->Bool}{t i n:Nat}(e:i<n)(d:L i=true)(c:QeZ l i=some t)(a:∀ j,i<j->j<n->QeZ l j=some t->L j=false):Qa2 l outs E L t n=dAt outs i:=by
 induction n with
 | zero=>omega
 | succ n ih =>
  rw[Qa2];by_cases b:i=n
  ·subst b;rw[if_pos ⟨d,c⟩]
  ·rw[if_neg (λh=>by rw[a n Oo Oo h.2]at h;cases h.1)];exact ih Oo λj h f=>a j h Oo
theorem lookS_self{outs:Qgi}{S:Nat->Option Ob}{L:Nat->Bool}{s i n:Nat}{x:Option Ob}(f:i<n)(e:L i=true)(d:XK (usAt outs i) s=some x)(b:∀ j,i<j->j<n->s∈(usAt outs j).map (·.1)->L j=false):Qap outs S L s n=x:=by
 induction n with
 | zero=>omega
 | succ n ih =>
  rw[Qap];by_cases c:i=n
  ·subst c;rw[if_pos e,d];rfl
  ·have:=ih Oo λj h g=>b j h Oo;by_cases a:s∈(usAt outs n).map (·.1)
   ·rw[if_neg (by rw[b n Oo Oo a];simp)];exact this
   ·rw[Qce a];simp[this]
section
variable{P:Program}{C:Cx}{ops:Array Oper}
theorem run_at{l:List Oper}{env c:Env}{sto b:Sto}{nxt a:Nat}{outs:Qgi}(h:Run P ops l env sto nxt outs c b a)(v:seqB C.nt l outs=true) :
  outs.length=l.length/\nxt<=a/\(∀ t,c.get t=Qa2 l outs env.get (λ_=>true) t l.length)/\(∀ s,b.get s=Qap outs sto.get (λ_=>true) s l.length) /\
  ∀ i o,l[i]?=some o->∃ out nx ei si,outs[i]?=some (out,nx)/\Qer P ops o ei si nx out/\(∀ t,ei.get t=Qa2 l outs env.get (λ_=>true) t i)/\(∀ s,si.get s=Qap outs sto.get (λ_=>true) s i)/\nxt<=nx/\nx+out.n<=a /\
   (∀ d,o.dst=some d->d<C.nt)/\(∀ p∈out.us,p.1<nx+out.n)/\∀ j out' nx',j<i->outs[j]?=some (out',nx')->nx'+out'.n<=nx:=by
 induction h with
 | nil=>exact ⟨rfl,Wl _,λ_=>rfl,λ_=>rfl,λi o h=>by simp at h⟩
 | @cons o rest env sto nxt out outs c b a hs hr ih =>
  simp only[seqB,Vh]at v;obtain ⟨⟨r,w⟩,x⟩:=v;obtain ⟨y,i2,i3,i4,i5⟩:=ih x;have n:(λk=>if o.dst=some k then out.d else env.get k)=(env.put o.dst out.d).get:=funext λk=>by
   cases u:o.dst with
   | none=>simp[Env.put]
   | some d =>
    simp only[Env.put_get,Wz];by_cases g:d=k
    ·rw[if_pos g,if_pos g.symm]
    ·rw[if_neg g,if_neg (Ne.symm g)]
  have q:(λk=>(XK out.us k).getD (sto.get k))=(sto.upd out.us).get:=funext λk=>(Sto.upd_get _ _ _).symm;refine ⟨by simp[y],Oo,λt=>?_,λs=>?_,λi J m=>?_⟩
  ·rw[i3,W3,lookE_cons,n]
  ·rw[i4,W3,lookS_cons,q]
  ·cases i with
   | zero =>simp only[WR,Wz]at m;subst m;exact ⟨out,nxt,env,sto,rfl,hs,λ_=>rfl,λ_=>rfl,Wl _,i2,λd u=>by rw[u]at r;simpa using r,λp K=>by simpa using List.all_eq_true.1 w p K,λj _ _ L=>by omega⟩
   | succ i =>
    obtain ⟨f,nx,ei,si,z,A,B,D,E,F,G,H,I⟩:=i5 i J (by simpa using m);refine ⟨f,nx,ei,si,by simpa using z,A,λt=>?_,λs=>?_,Oo,F,G,H,λj out' nx' L e=>?_⟩
    ·rw[B,lookE_cons,n]
    ·rw[D,lookS_cons,q]
    ·cases j with
     | zero =>simp only[WR,Wz,Ul]at e;obtain ⟨rfl,rfl⟩:=e;exact E
     | succ j=>exact I j out' nx' Oo (by simpa using e)
theorem Qbe{x y:List Nat}{k:Nat}(b:k∈x)(a:k∈y):meets x y=true:=UM.2 ⟨k,b,by simpa using a⟩
theorem reach_in{L:Nat->Bool}(c:∀ i,L i=true->∀ d∈deps ops i,L d=true){i:Nat}:∀ (n j:Nat),(∀ d∈deps ops j,L d=true)->reach ops n j i=true->L i=true:=by
 intro n;induction n with
 | zero=>intro j _ h;cases h
 | succ n ih =>
  intro j b h;simp only[reach,UM,VO,Vh]at h;obtain ⟨d,a,h⟩:=h;rcases h with h | ⟨_,h⟩
  ·have:d=i:=by simpa using h
   exact this▸b d a
  ·exact ih d (c d (b d a)) h
theorem ordB_spec{K:List Nat}{outs:Qgi}(h:ordK K ops outs=true){i j:Nat}(b:i<j){o p:Oper}{x y:Out×Nat}(f:ops[i]?=some o)(a:ops[j]?=some p)(l:outs[i]?=some x)(g:outs[j]?=some y)(k:QgX K ops o p x y=true):reach ops ops.size j i=true:=by
 have e:j<ops.size:=by
  rcases Ws j ops.size with h' | h'
  ·exact h'
  ·rw[Ut h']at a;cases a
 unfold ordK at h;rw[WZ]at h;have c:=h j (WE.2 e);rw[WZ]at c;have d:=c i (WE.2 b);simp only[f,a,l,g,k,Bool.not_true,Bool.false_or]at d;exact d
theorem opTmps_mem{o:Oper}{t:Nat}(h:.tmp t∈o.op.operands):t∈opTmps o:=List.mem_filterMap.2 ⟨.tmp t,by simpa using h,rfl⟩
theorem run_any{K:List Nat}{env af:Env}{sto ae:Sto}{nxt ad:Nat}{outs:Qgi}(h:Run P ops ops.toList env sto nxt outs af ae ad)(hb:seqB C.nt ops.toList outs=true)(hk:backB ops=true)(ac:ordK K ops outs=true)(Y:cstP sto nxt outs K){Q:Exit->Act->World->Prop}
  (hQ:∀ a w,Sim C ⟨af,ae,ad⟩ a w->Q .normal a w):∀ fuel (L:Array Bool) a w,L.size=ops.size->cnt L<=fuel->(∀ i,L.getD i false=true->∀ d∈deps ops i,L.getD d false=true) ->
   (∃ m:Mem,m.w=w/\SimM C (λt=>Qa2 ops.toList outs env.get (L.getD · false) t ops.size) (λs=>Qap outs sto.get (L.getD · false) s ops.size) m a/\∀ s,nxt<=s->(∀ j,j<ops.size->L.getD j false=true->s∉(usAt outs j).map (·.1))->m.σ s=none) ->
   wpAny P .any ops Q fuel L a w:=by
 have aj:ops.toList.length=ops.size:=Wt;obtain ⟨r1,r2,r3,r4,r5⟩:=run_at (C:=C) h hb;rw[aj]at r1 r3 r4;have c:∀ {i F nx},outs[i]?=some (F,nx)->usAt outs i=F.us:=λ{i F nx} h=>by unfold usAt;rw[h]
 have v:∀ {i o},ops[i]?=some o->QeZ ops.toList i=o.dst:=λ{i o} h=>by unfold QeZ;rw[UA,h];rfl
 have T:∀ {i},i<ops.size->∃ o,ops[i]?=some o:=λ{i} h=>⟨ops[i],by simp[h]⟩;have fin:∀ L a w,L.size=ops.size->(∃ m:Mem,m.w=w/\SimM C (λt=>Qa2 ops.toList outs env.get (L.getD · false) t ops.size) (λs=>Qap outs sto.get (L.getD · false) s ops.size) m a/\∀ s,nxt<=s->(∀ j,j<ops.size->L.getD j false=true->s∉(usAt outs j).map (·.1))->m.σ s=none) ->
   Region.ready .any ops L=[]->Q .normal a w:=λL a w hl ⟨m,hw,hm,hF⟩ hr=>by
  have aa:=ready_nil_all hk hl hr
  refine hQ a w ⟨m,hw,hm.eq (λt=>?_) λs=>?_,λs hs=>hF s (by dsimp only at hs;omega) λj z _ N=>?_⟩
  ·dsimp only
   rw[r3]
   exact (QdO (Wl _) (λj z _=>aa j z) λj S O=>by omega).symm
  ·dsimp only
   rw[r4]
   exact (QdN (Wl _) (λj z _=>aa j z) λj S O=>by omega).symm
  ·obtain ⟨o,W⟩:=T z
   obtain ⟨F,nx,ei,si,k1,_,_,_,_,k6,_,k8,_⟩:=r5 j o (by rw[UA];exact W)
   rw[c k1]at N
   obtain ⟨p,B,rfl⟩:=Wm.1 N
   have:=k8 p B
   dsimp only at hs
   omega
 intro fuel;induction fuel with
 | zero =>
  intro L a w hl hc R hm;have hr:Region.ready .any ops L=[]:=by rw[List.eq_nil_iff_forall_not_mem];intro i hi;have:=cnt_set (mem_ready.1 hi).1;omega
  exact ⟨hr,fin L a w hl hm hr⟩
 | succ fuel ih =>
  intro L a w hl hc R hm;refine ⟨fin L a w hl hm,λi hi=>?_⟩;obtain ⟨al,o,W,am⟩:=mem_ready.1 hi;obtain ⟨m,hw,hm,hF⟩:=hm;subst hw;have ag:i<ops.size:=by
   rcases Ws i ops.size with h' | h'
   ·exact h'
   ·rw[Ut h']at W;cases W
  have D:L.getD i false=false:=by
   have an:i<L.size:=by omega
   simpa [Array.getD,an] using al
  have ak:∀ d∈deps ops i,L.getD d false=true:=λd r=>by unfold deps at r;rw[W]at r;simp only[Wx,WG,Wm,WX]at r;obtain ⟨e,⟨he,ap⟩,rfl⟩:=r;exact am e (by simpa using he) ap
  obtain ⟨F,nx,ei,si,k1,k2,k3,k4,k5,k6,k7,k8,k9⟩:=r5 i o (by rw[UA];exact W);have U:∀ j p y,j<i->ops[j]?=some p->outs[j]?=some y->QgX K ops p o y (F,nx)=true->L.getD j false=true:=λj p y z B A X =>
   reach_in (L:=(L.getD · false)) R _ i ak (ordB_spec ac z B W A k1 X)
  have I:∀ j p y,i<j->ops[j]?=some p->outs[j]?=some y->QgX K ops o p (F,nx) y=true->L.getD j false=false:=λj p y z B A X=>by
   cases G:L.getD j false with
   | false=>rfl
   | true =>have:=reach_in (L:=(L.getD · false)) R _ j (R j G) (ordB_spec ac z W B k1 A X);rw[show L.getD i false=true from this]at D;cases D
  have ah:∀ s,s∈K->∀ (L:Nat->Bool) (n:Nat),n<=ops.size->Qap outs sto.get L s n=sto.get s:=λs hs L n hn=>QgE λj z y A=>by obtain ⟨x,hx⟩:∃ x,outs[j]?=some x:=⟨outs[j]' Oo,Wa Oo⟩;rw[c (show outs[j]?=some (x.1,x.2) from hx)]at A;exact (Y.get s hs).2 j x hx y A
  have V:∀ {s:Nat} {l:List (Nat×Option Ob)} {l':List Nat},s∈l.map (·.1)->s∉K->s∈(l.map (·.1)).filter (λs=>!K.contains s)++l':=λS O=>Wg _ (WX.2 ⟨S,by simp[O]⟩);have u:∀ {j},j<ops.size->∃ p y,ops[j]?=some p/\outs[j]?=some y:=λ{j} z=>by obtain ⟨p,B⟩:=T z;exact ⟨p,outs[j]' Oo,B,Wa Oo⟩
  have ab:∀ t,t∈opTmps o++(match o.guard with | some (g,_)=>((ops[g]?).bind (·.dst)).toList | none=>[])->Qa2 ops.toList outs env.get (L.getD · false) t ops.size=ei.get t:=λt Z=>by
   rw[k3];refine QdO Oo (λj z r=>?_) λj S O r=>?_
   ·obtain ⟨p,y,B,A⟩:=u (j:=j) Oo;rw[v B]at r;refine U j p y z B A ?_;unfold QgX;simp only[r,YA,VO];exact .inl (.inl (.inl (Qbe (Wn.2 rfl) (Wg _ Z))))
   ·by_cases q:j=i
    ·subst q;exact D
    ·obtain ⟨p,y,B,A⟩:=u (j:=j) O;rw[v B]at r;refine I j p y Oo B A ?_;unfold QgX;simp only[r,YA,VO];exact .inl (.inl (.inr (Qbe (Wn.2 rfl) Z)))
  have ao:∀ s,s∈F.rs->Qap outs sto.get (L.getD · false) s ops.size=si.get s:=λs hs=>by
   by_cases H:s∈K
   ·rw[k4,ah s H _ _ (Wl _),ah s H _ _ Oo]
   rw[k4];refine QdN Oo (λj z r=>?_) λj S O r=>?_
   ·obtain ⟨p,y,B,A⟩:=u (j:=j) Oo;rw[c A]at r;refine U j p y z B A ?_;unfold QgX;simp only[VO];exact .inl (.inr (Qbe (V r H) (Wg _ hs)))
   ·by_cases q:j=i
    ·subst q;exact D
    ·obtain ⟨p,y,B,A⟩:=u (j:=j) O;rw[c A]at r;refine I j p y Oo B A ?_;unfold QgX;simp only[VO];exact .inr (Qbe (V r H) hs)
  have ai:Fresh m nx F.n:=λs S O=>hF s Oo λj z G N=>by
   obtain ⟨p,y,B,A⟩:=u z;rw[c A]at N;by_cases q:j<i
   ·obtain ⟨o',aA⟩:=y;obtain ⟨az,aB,_,_,q1,_,_,_,_,_,_,q8,_⟩:=r5 j p (by rw[UA];exact B);rw[A]at q1;injection q1 with q1;injection q1 with q1 q2;subst q1;subst q2;obtain ⟨pp,aq,rfl⟩:=Wm.1 N;have a1:=q8 pp aq;have a2:=k9 j _ _ q A;omega
   ·by_cases av:j=i
    ·subst av;rw[D]at G;cases G
    ·have:=I j p y Oo B A (by
      unfold QgX
      simp only[VO]
      exact .inl (.inr (Qbe (k:=s) (Wj _ (by rw[List.mem_range'];exact ⟨s-nx,Oo,Oo⟩)) (Wj _ (V N λhK=>by have:=(Y.get s hK).1;omega)))))
     rw[this]at G;cases G
  refine wpOp_step W λK1 aw=>hm.step k2 (λx hx t Z=>ab t (Wg _ (opTmps_mem (Z▸hx)))) (λg b t hg ax=>ab t (Wj _ (by rw[hg];dsimp only;rw[ax];simp))) ao ai k7 λa' m' S O=>?_;refine aw a' m'.w (ih _ _ _ (by simpa using hl) (by have:=cnt_set al;omega) (λj z d r=>?_) ⟨m',rfl,S.eq (λt=>?_) (λs=>?_),λs hs z=>?_⟩)
  ·by_cases q:i=j
   ·subst q;by_cases M:i=d
    ·subst M;exact z
    ·rw[getD_set_ne false M];exact ak d r
   ·rw[getD_set_ne false q]at z;by_cases M:i=d
    ·subst M;have:=R j z i r;rw[D]at this;cases this
    ·rw[getD_set_ne false M];exact R j z d r
  ·have J:(L.setIfInBounds i true).getD i false=true:=by
    have:i<L.size:=by omega
    simp[Array.getD,this]
   by_cases Z:o.dst=some t
   ·rw[if_pos Z];have:=lookE_self (l:=ops.toList) (outs:=outs) (E:=env.get) (L:=((L.setIfInBounds i true).getD · false)) (t:=t) (n:=ops.size) ag J (by rw[v W];exact Z) λj S O r=>by obtain ⟨p,y,B,A⟩:=u (j:=j) O;rw[v B]at r;rw[getD_set_ne false Oo];refine I j p y S B A ?_;unfold QgX;simp only[Z,r,YA,VO];exact .inl (.inl (.inl (Qbe (Wn.2 rfl) (Wj _ (Wn.2 rfl)))))
    rw[this];unfold dAt;rw[k1]
   ·rw[if_neg Z];refine lookE_congr λj z r=>?_;by_cases q:i=j
    ·subst q;rw[v W]at r;exact absurd r Z
    ·exact getD_set_ne false q
  ·have J:(L.setIfInBounds i true).getD i false=true:=by
    have:i<L.size:=by omega
    simp[Array.getD,this]
   cases hu:XK F.us s with
   | some x =>
    simp only[WG];by_cases H:s∈K
    ·rw[ah s H _ _ (Wl _),(Y.get s H).2 i (F,nx) k1 x hu]
    refine lookS_self (L:=((L.setIfInBounds i true).getD · false)) ag J (by rw[c k1];exact hu) λj S O r=>?_;obtain ⟨p,y,B,A⟩:=u (j:=j) O;rw[c A]at r;rw[getD_set_ne false Oo];refine I j p y S B A ?_;unfold QgX;simp only[VO];exact .inl (.inr (Qbe (V (Vc (f:=(·.1)) (Qgk hu)) H) (Wj _ (V r H))))
   | none =>
    simp only[YN];refine lookS_congr λj z r=>?_;by_cases q:i=j
    ·subst q;rw[c k1]at r;obtain ⟨x,hx⟩:=updGet_in r;rw[hu]at hx;cases hx
    ·exact getD_set_ne false q
  ·have J:(L.setIfInBounds i true).getD i false=true:=by
    have:i<L.size:=by omega
    simp[Array.getD,this]
   rw[O.same s λN=>?_]
   ·refine hF s hs λj ay G=>?_;by_cases q:i=j
    ·subst q;rw[D]at G;cases G
    ·exact z j ay (by rw[getD_set_ne false q];exact G)
   ·exact z i ag J (by rw[c k1];exact N)
end
def DWp(P:Program)(nt n0:Nat)(c:Code)(Q:Exit->DSt->Prop)(b:DSt):Prop := ∀ C:Cx,C.nt=nt->C.n0=n0->∀ a w,Sim C b a w->Code.wp P c (λe a w=>∃ st',Q e st'/\Sim C st' a w) a w
section
variable{P:Program}{nt n0:Nat}{Q:Exit->DSt->Prop}{st:DSt}
theorem DWp.mono{c:Code}{b:Exit->DSt->Prop}(h:DWp P nt n0 c Q st)(k:∀ e s,Q e s->b e s):DWp P nt n0 c b st :=
 λC d f a w g=>wp_mono (h C d f a w g) λe a w ⟨s,i,j⟩=>⟨s,k e s i,j⟩
theorem d_skip(h:Q .normal st):DWp P nt n0 .skip Q st:=λC _ _ a w b=>wp_skip ⟨st,h,b⟩
theorem d_exit{id:Nat}(h:Q (.exit id) st):DWp P nt n0 (.exit id) Q st:=λC _ _ a w b=>wp_exit ⟨st,h,b⟩
theorem d_ret(h:Q .ret st):DWp P nt n0 .ret Q st:=λC _ _ a w b=>wp_ret ⟨st,h,b⟩
theorem d_label{l:Nat}(h:Q .normal st):DWp P nt n0 (.label l) Q st:=λC _ _ a w b=>wp_label ⟨st,h,b⟩
def QcT(K:DSt->Prop)(Q:Exit->DSt->Prop):Exit->DSt->Prop
 | .normal,s=>K s
 | e,s=>Q e s
theorem d_seq{x y:Code}(h:∀ K:DSt->Prop,(∀ s,DWp P nt n0 y Q s->K s)->DWp P nt n0 x (QcT K Q) st):DWp P nt n0 (.seq x y) Q st:=λC b c a w g=>by
 refine wp_seq (wp_mono (h (DWp P nt n0 y Q) (λ_ h=>h) C b c a w g) λe a w ⟨s,d,f⟩=>?_);cases e with
 | normal=>exact d C b c a w f
 | _=>exact ⟨s,d,f⟩
theorem d_cond{c:Operand}{x y:Code}{t:Bool}(g:opd st.env c = .lit (.bool t))(h:DWp P nt n0 (if t then x else y) Q st):DWp P nt n0 (.cond c x y) Q st:=λC e f a w b=>by
 have:a.eval c = .bool t:=by obtain ⟨m,_,d,_⟩:=b;have:=opd_rep (m:=m) (a:=a) (env:=st.env) (x:=c) λt _=>d.env t;rw[g]at this;exact this.lit_inv
 exact wp_cond this (h C e f a w b)
theorem d_condT{c:Operand}{x y:Code}(a:opd st.env c = .lit (.bool true))(h:DWp P nt n0 x Q st):DWp P nt n0 (.cond c x y) Q st:=d_cond a h
theorem d_condF{c:Operand}{x y:Code}(a:opd st.env c = .lit (.bool false))(h:DWp P nt n0 y Q st):DWp P nt n0 (.cond c x y) Q st:=d_cond a h
def blockD(id:Nat)(Q:Exit->DSt->Prop):Exit->DSt->Prop
 | .exit id',s=>if id'=id then Q .normal s else Q (.exit id') s
 | e,s=>Q e s
theorem d_block{id:Nat}{c:Code}(h:DWp P nt n0 c (blockD id Q) st):DWp P nt n0 (.block id c) Q st:=λC f g a w i=>by
 refine wp_block (wp_mono (h C f g a w i) λe a w ⟨s,b,d⟩=>?_);cases e with
 | exit id' =>
  simp only[blockD,Exit.inBlock]at b ⊢;split
  ·rename_i hi;rw[if_pos hi]at b;exact ⟨s,b,d⟩
  ·rename_i hi;rw[if_neg hi]at b;exact ⟨s,b,d⟩
 | _=>exact ⟨s,b,d⟩
def Q0(P:Program)(ops:Array Oper)(l:List Oper)(a:DSt)(K:Qgi->DSt->Prop):Prop := ∃ outs env' sto' nxt',Run P ops l a.env a.sto a.nxt outs env' sto' nxt'/\K outs ⟨env',sto',nxt'⟩
theorem Q0.nil{ops:Array Oper}{a:DSt}{K:Qgi->DSt->Prop}(h:K [] a):Q0 P ops [] a K:=⟨[],a.env,a.sto,a.nxt,.nil,h⟩
theorem Q0.cons'{ops:Array Oper}{o:Oper}{l:List Oper}{a:DSt}{K:Qgi->DSt->Prop}{out:Out}(h:Qer P ops o a.env a.sto a.nxt out)(k:Q0 P ops l ⟨a.env.put o.dst out.d,a.sto.upd out.us,a.nxt+out.n⟩ λouts=>K ((out,a.nxt) :: outs)):Q0 P ops (o :: l) a K:=by obtain ⟨outs,b,c,d,e,f⟩:=k;exact ⟨_,b,c,d,.cons h e,f⟩
theorem Q0.op{ops:Array Oper}{b:Option Nat}{f:Op}{g:Nat}{c:String}{a:Array Edge}{l:List Oper}{env:Env}{sto:Sto}{nxt:Nat}{K:Qgi->DSt->Prop}{d:DV}{us:List (Nat×Option Ob)}{e:List Nat}{n:Nat}
  (h:Qv P ⟨b,f,g,c,a,none⟩ env sto nxt ⟨d,us,e,n⟩)(k:Q0 P ops l ⟨env.put b d,sto.upd us,nxt+n⟩ λouts=>K ((⟨d,us,e,n⟩,nxt) :: outs)):Q0 P ops (⟨b,f,g,c,a,none⟩ :: l) ⟨env,sto,nxt⟩ K:=Q0.cons' h k
theorem d_region{id:Nat}{ops:Array Oper}{l:List Oper}(k:ops=l.toArray)(h:Q0 P l.toArray l st λouts s=>seqB nt l outs=true/\Q .normal s):DWp P nt n0 (.region id ops false) Q st:=λC j m a w b=>by subst k;obtain ⟨outs,c,d,e,f,g,i⟩:=h;subst j;exact wp_region_lit (run_seq f g (λa w b=>⟨_,i,b⟩) a w b)
theorem Sim.drew{C:Cx}{d:DSt}{a:Act}{w:World}(h:Sim C d a w):Sim C d a { w with drawn:=w.drawn+1 }:=by obtain ⟨m,rfl,b,f⟩:=h;have c:Ext m ⟨{ m.w with drawn:=m.w.drawn+1 },m.M,m.σ⟩:=⟨Wl _,rfl,λ_ _ h=>⟨rfl,h⟩,λ_ x h=>⟨x,h,λg h=>⟨g,h,rfl,rfl⟩⟩⟩;have e:Loc [] m ⟨{ m.w with drawn:=m.w.drawn+1 },m.M,m.σ⟩:=⟨c,λ_ _=>rfl,λ_ _ _=>rfl⟩;exact ⟨⟨{ m.w with drawn:=m.w.drawn+1 },m.M,m.σ⟩,rfl,⟨⟨b.inv.os,b.inv.tape,b.inv.output,b.inv.size,b.inv.old,b.inv.inj,b.inv.at_,b.inv.lt,b.inv.wf,b.inv.tab⟩,b.M,b.size,b.defers,b.org,b.lim0,λk=>(b.env k).ext c,λs i j=>QH.loc b.inv e Os (b.sto s i j)⟩,f⟩
theorem d_anyK{K:List Nat}{id:Nat}{ops:Array Oper}{l:List Oper}(z:P.follows .mixedOrders=true)(B:ops=l.toArray)(A:backB l.toArray=true)(h:Q0 P l.toArray l st λouts s=>(seqB nt l outs=true/\ordK K l.toArray outs=true/\cstP st.sto st.nxt outs K)/\Q .normal s):DWp P nt n0 (.region id ops true) Q st:=λC v D a w c=>by
 subst B;obtain ⟨outs,e,f,g,k,⟨n,o,p⟩,q⟩:=h;subst v;refine wp_region_any z (run_any (ops:=l.toArray) k n A o p (λa w c=>⟨_,q,c⟩) l.toArray.size (Array.replicate l.toArray.size false) a _ Os (by simp[cnt]) (λi x=>by simp[Array.getD]at x) ?_);obtain ⟨m,r,d,u⟩:=c.drew;have b:∀ j,(Array.replicate l.toArray.size false).getD j false=false:=λj=>by simp[Array.getD]
 refine ⟨m,r,d.eq (λt=>?_) (λs=>?_),λs c _=>u s c⟩
 ·exact QdO (i:=0) (WO _) (λj y=>by omega) λj _ _ _=>b j
 ·exact QdN (i:=0) (WO _) (λj y=>by omega) λj _ _ _=>b j
theorem d_any{id:Nat}{ops:Array Oper}{l:List Oper}(i:P.follows .mixedOrders=true)(k:ops=l.toArray)(j:backB l.toArray=true)(h:Q0 P l.toArray l st λouts s=>(seqB nt l outs=true/\ordB l.toArray outs=true)/\Q .normal s):DWp P nt n0 (.region id ops true) Q st:=by obtain ⟨outs,a,b,c,d,⟨e,f⟩,g⟩:=h;exact d_anyK (K:=[]) i k j ⟨outs,a,b,c,d,⟨e,f,trivial⟩,g⟩
abbrev Ren:=List (Nat×Nat)
def Ren.get:Ren->Nat->Option Nat
 | [],_=>none
 | (k,s) :: l,j=>cond (Nat.beq j k) (some s) (Ren.get l j)
mutual
inductive Cv (sto:Sto) (ρ:Ren):DV->DV->List Nat->Prop
 | any {d:DV}:Cv sto ρ d .any []
 | lit {v:Value}:Cv sto ρ (.lit v) (.lit v) []
 | sl {xs:List (List DV)}:Cv sto ρ (.sl xs) (.sl xs) []
 | nil:Cv sto ρ (.lit (.slice none 0 0)) (.sl []) []
 | frz {s off len:Nat} {ob:Ob} {xs:List (List DV)}:sto.get s=some ob->ob.arr=true->off+len<=ob.els.length->(ob.els.drop off).take len=xs->Cv sto ρ (.own s off len) (.sl xs) [s]
 | own {s s' off len:Nat}:ρ.get s'=some s->Cv sto ρ (.own s off len) (.own s' off len) []
 | ptr {s s' i j:Nat}:ρ.get s'=some s->Cv sto ρ (.ptr s i j) (.ptr s' i j) []
 | pp {xs:List DV}:Cv sto ρ (.pp xs) (.pp xs) []
 | dp {z:Nat} {xs:List (List DV)}:Cv sto ρ (.dp z xs) (.dp z xs) []
 | dfz {s len:Nat} {ob:Ob} {xs:List (List DV)}:sto.get s=some ob->ob.arr=false->(∀ x∈ob.els,∀ d∈x,dpB d=true)->len=ob.els.length->ob.els.map (·.map undp)=xs->Cv sto ρ (.own s 0 len) (.sl xs) [s]
 | agg {xs ys:List DV} {r:List Nat}:CvL sto ρ xs ys r->Cv sto ρ (.agg xs) (.agg ys) r
 | tup {xs ys:List DV} {r:List Nat}:CvL sto ρ xs ys r->Cv sto ρ (.tup xs) (.tup ys) r
 | fn {f:FuncId} {xs ys:List DV} {r:List Nat}:CvL sto ρ xs ys r->Cv sto ρ (.fn f xs) (.fn f ys) r
inductive CvL (sto:Sto) (ρ:Ren):List DV->List DV->List Nat->Prop
 | nil:CvL sto ρ [] [] []
 | cons {x y:DV} {xs ys:List DV} {r r':List Nat}:Cv sto ρ x y r->CvL sto ρ xs ys r'->CvL sto ρ (x :: xs) (y :: ys) (r++r')
end
def EntIs(σ a:Nat->Option (Option Ent))(ρ:Ren):Prop:=∀ s' s,ρ.get s'=some s->(σ s=some none->a s'=some none)/\∀ e,σ s=some (some e)->a s'=some none\/∃ e',a s'=some (some e')/\e'.esz=e.esz/\e'.blk=e.blk
def HoldsF(m:Mem)(sto:Sto)(a:List Nat):Prop:=∀ s∈a,∀ ob,sto.get s=some ob->∃ z,QH m s { ob with frz:=z }
theorem QZ.f{m:Mem}{sto:Sto}{c:List Nat}(h:QZ m sto c):HoldsF m sto c:=λs d b a=>⟨b.frz,h s d b a⟩
theorem Cv.rep{sto:Sto}{ρ:Ren}{m m':Mem}(J:m'.w=m.w)(E:∀ k,m'.no k->m.no k)(hσ:EntIs m.σ m'.σ ρ){F:Fm}(hI:Inv F m){d d':DV}{fr:List Nat}(h:Cv sto ρ d d' fr)
  (p:HoldsF m sto fr)(a:∀ s∈fr,∀ e g,m.σ s=some (some e)->e.has g->¬ m'.no g){v:Value}(c:Rep m v d):Rep m' v d':=by
 have hp:∀ {v d},PRep m.w m.no v d->PRep m'.w m'.no v d:=λh=>PRep.ext (by rw[J];exact Wl _) (λk _ hk=>⟨by rw[J],λh=>hk (E k h)⟩) h;refine Cv.rec (motive_1:=λd d' fr _=>HoldsF m sto fr->(∀ s∈fr,∀ e g,m.σ s=some (some e)->e.has g->¬ m'.no g)->∀ v,Rep m v d->Rep m' v d')
  (motive_2:=λxs D fr _=>HoldsF m sto fr->(∀ s∈fr,∀ e g,m.σ s=some (some e)->e.has g->¬ m'.no g)->xs.length=D.length/\∀ (i:Nat) x y,xs[i]?=some x->D[i]?=some y->∀ v,Rep m v x->Rep m' v y)
  ?_ ?_ ?_ ?_ ?_ ?_ ?_ ?_ ?_ ?_ ?_ ?_ ?_ ?_ ?_ h p a v c
 ·intro d _ _ v _;exact .any v
 ·intro u _ _ v c;rw[c.lit_inv];exact .pure (.lit u c.lit_one)
 ·intro xs _ _ v c;exact .pure (hp c.sl_inv)
 ·intro _ _ v c;rw[c.lit_inv];exact .pure (.nil _ _ (WO _))
 ·intro s K O P xs w C A L p a v c;subst L;obtain ⟨z,T⟩:=p s Os P w;obtain ⟨e,l,q,U,B⟩:=Jm c T;rcases B with ⟨g,H,B,rfl,M,N⟩ | ⟨B,rfl,rfl,rfl,M,N⟩
  ·have:=Qci (no:=m'.no) N C (a s Os e g l (Ent.has_blk B)) E A;rw[<- J]at this;exact .pure this
  ·rw[show P.els=[] from M];exact .pure (.nil _ _ (WO _))
 ·intro s V K O W _ _ v c;obtain ⟨G,t⟩:=hσ V s W;cases c with
  | pure h=>cases h
  | @own _ e g H _ _ l q U k4 =>
   rcases t e l with h | ⟨e',w,C,A⟩
   ·exact .ownOld h
   ·rw[<- C];exact .own w (A.trans q) U k4
  | @ownNil _ e l q =>
   rcases t e l with h | ⟨e',w,C,A⟩
   ·exact .ownOld h
   ·exact .ownNil w (A.trans q)
  | ownOld l=>exact .ownOld (G l)
 ·intro s V i j W _ _ v c;obtain ⟨G,t⟩:=hσ V s W;cases c with
  | pure h=>cases h
  | @ptr _ e g H _ _ l q =>
   rcases t e l with h | ⟨e',w,C,A⟩
   ·exact .ptrOld h
   ·rw[<- C];exact .ptr w (A.trans q)
  | ptrOld l=>exact .ptrOld (G l)
 ·intro xs _ _ v c;obtain ⟨b,K,f,rfl,w,C,A,L⟩:=c.pp_inv;exact .pp f (λh=>w (E b h)) (by rw[J];exact C) (λj d Z=>by rw[J];exact A j d Z) (λj d Z=>hp (L j d Z))
 ·intro z xs _ _ v c;exact .dp v
 ·intro s O P xs w C A L h5 p a v c;subst L;subst h5;obtain ⟨z,T⟩:=p s Os P w;obtain ⟨e,l,q,U,B⟩:=Jm c T;rcases B with ⟨g,H,B,rfl,M,N⟩ | ⟨B,rfl,_,_,M,N⟩
  ·have:=prep_of_deep (no:=m'.no) N (deep_get T l B) C (a s Os e g l (Ent.has_blk B)) (λb hb=>a s Os e b l (.inr hb)) E A;rw[<- J]at this;rw[UD,UR];exact .pure this
  ·rw[show P.els=[] from M];exact .pure (.nil _ _ (WO _))
 ·intro xs D r _ Q p a v c;obtain ⟨G,t⟩:=Q p a;obtain ⟨vs,rfl,l,q⟩:=c.agg_inv;refine .agg Oo λi u y R o=>?_;have n:i<xs.length:=by
   rcases Ws i D.length with h' | h'
   ·omega
   ·rw[Wi h']at o;cases o
  exact t i _ y (Wa n) o u (q i u _ R (Wa n))
 ·intro xs D r _ Q p a v c;obtain ⟨G,t⟩:=Q p a;obtain ⟨vs,rfl,l,q⟩:=c.tup_inv;refine .tup Oo λi u y R o=>?_;have n:i<xs.length:=by
   rcases Ws i D.length with h' | h'
   ·omega
   ·rw[Wi h']at o;cases o
  exact t i _ y (Wa n) o u (q i u _ R (Wa n))
 ·intro f xs D r _ Q p a v c;obtain ⟨G,t⟩:=Q p a;obtain ⟨vs,rfl,l,q⟩:=c.fn_inv;refine .fn Oo λi u y R o=>?_;have n:i<xs.length:=by
   rcases Ws i D.length with h' | h'
   ·omega
   ·rw[Wi h']at o;cases o
  exact t i _ y (Wa n) o u (q i u _ R (Wa n))
 ·intro _ _;exact ⟨rfl,λi x y S=>by simp at S⟩
 ·intro x y xs D r r' _ _ X Y p a;obtain ⟨G,t⟩:=Y (λs I=>p s (Wj _ I)) (λs I=>a s (Wj _ I));refine ⟨by simp[G],λi x' y' S o v c=>?_⟩;cases i with
  | zero =>simp only[WR,Wz]at S o;subst S;subst o;exact X (λs I=>p s (Wg _ I)) (λs I=>a s (Wg _ I)) v c
  | succ i=>exact t i x' y' (by simpa using S) (by simpa using o) v c
end
inductive CvO(sto:Sto)(ρ:Ren):Ob->Ob->List Nat->Prop
 | arr {ob:Ob}:ob.arr=true->CvO sto ρ ob ob []
 | rows {z:Nat} {fz:Bool} {xs ys:List (List DV)} {fr:List Nat}:xs.length=ys.length->(∀ (i:Nat) x y,xs[i]?=some x->ys[i]?=some y->∃ r,CvL sto ρ x y r/\∀ s∈r,s∈fr)->(∀ s∈fr,(sto.get s).isSome=true)->CvO sto ρ ⟨z,false,fz,xs⟩ ⟨z,false,fz,ys⟩ fr
inductive CvS(sto:Sto)(ρ:Ren):Sto->List Nat->Prop
 | nil:CvS sto ρ [] []
 | cons {s' s:Nat} {ob ob':Ob} {l:Sto} {r r':List Nat}:ρ.get s'=some s->sto.get s=some ob->CvO sto ρ ob ob' r->CvS sto ρ l r'->CvS sto ρ ((s',ob') :: l) (r++r')
inductive CvE(sto:Sto)(ρ:Ren)(env:Env):Env->List Nat->Prop
 | nil:CvE sto ρ env [] []
 | cons {k:Nat} {d:DV} {l:Env} {r r':List Nat}:Cv sto ρ (env.get k) d r->CvE sto ρ env l r'->CvE sto ρ env ((k,d) :: l) (r++r')
def Qfh:List Nat->Bool
 | []=>true
 | x :: l=>!l.contains x && Qfh l
def okR(ρ:Ren)(fr:List Nat)(n0 nxt:Nat):Bool := Qfh (ρ.map (·.2)) && (ρ.all λp=>decide (p.1<nxt) && (!decide (p.1<n0) || p.1 == p.2) && !fr.contains p.2) && decide (n0<=nxt)
theorem Ren.get_mem{ρ:Ren}{a s:Nat}(h:ρ.get a=some s):(a,s)∈ρ:=by
 induction ρ with
 | nil=>cases h
 | cons p l ih =>
  obtain ⟨k,x⟩:=p;simp only[Ren.get,JC]at h;split at h
  ·rename_i hk;injection h with h;subst hk;subst h;simp
  ·exact Wp _ (ih h)
theorem Qdq:∀ {ρ:Ren},Qfh (ρ.map (·.2))=true->∀ {a b s:Nat},(a,s)∈ρ->(b,s)∈ρ->a=b
 | [],_,_,_,_,h,_=>by cases h
 | (k,x) :: l,hn,a,b,s,ha,hb=>by
  simp only[Vj,Qfh,Vh,VF]at hn;obtain ⟨f,g⟩:=hn;have d:∀ c,(c,x)∈l->False:=λc i=>by
   have:(l.map (·.2)).contains x=true:=by rw[Uh];exact Wm.2 ⟨(c,x),i,rfl⟩
   rw[f]at this;cases this
  rcases Wu.1 ha with h1 | h1 <;> rcases Wu.1 hb with h2 | h2
  ·injection h1 with h1 _;injection h2 with h2 _;rw[h1,h2]
  ·injection h1 with h1 e;subst e;exact (d _ h2).elim
  ·injection h2 with h1 e;subst e;exact (d _ ‹_›).elim
  ·exact Qdq g h1 h2
theorem CvL.known{sto:Sto}{ρ:Ren}{xs ys:List DV}{r:List Nat}(h:CvL sto ρ xs ys r):∀ s∈r,(sto.get s).isSome=true:=by
 refine CvL.rec (motive_1:=λd l r _=>∀ s∈r,(sto.get s).isSome=true) (motive_2:=λxs ys r _=>∀ s∈r,(sto.get s).isSome=true) ?_ ?_ ?_ ?_ ?_ ?_ ?_ ?_ ?_ ?_ ?_ ?_ ?_ ?_ ?_ h
 ·intro d s a;cases a
 ·intro v s a;cases a
 ·intro xs s a;cases a
 ·intro s a;cases a
 ·intro s j c k xs e _ _ _ t f;obtain rfl:=Wn.1 f;rw[e];rfl
 ·intro _ _ _ _ _ s a;cases a
 ·intro _ _ _ _ _ s a;cases a
 ·intro _ s a;cases a
 ·intro _ _ s a;cases a
 ·intro s c k xs e _ _ _ _ t f;obtain rfl:=Wn.1 f;rw[e];rfl
 ·intro _ _ _ _ b;exact b
 ·intro _ _ _ _ b;exact b
 ·intro _ _ _ _ _ b;exact b
 ·intro s a;cases a
 ·intro _ _ _ _ _ _ _ _ g i s a;rcases Wk.1 a with h | h
  ·exact g s h
  ·exact i s h
theorem CvO.box{sto:Sto}{ρ:Ren}{z:Nat}{d:Bool}{cs a:List DV}{r:List Nat}(h:CvL sto ρ cs a r):CvO sto ρ ⟨z,false,d,[cs]⟩ ⟨z,false,d,[a]⟩ r :=
 .rows rfl (λi x y b c=>by
  cases i with
  | zero =>
   simp only[WR,Wz]at b c
   subst b
   subst c
   exact ⟨r,h,λs e=>e⟩
  | succ i=>simp at b) h.known
theorem CvO.same{sto:Sto}{ρ:Ren}{z:Nat}{f:Bool}{xs:List (List DV)}(h:∀ x∈xs,∀ d∈x,dpB d=true):CvO sto ρ ⟨z,false,f,xs⟩ ⟨z,false,f,xs⟩ [] :=
 .rows rfl (λi x y b a=>by
  rw[b]at a
  injection a with a
  subst a
  have e:=h x (Wq b)
  refine ⟨[],?_,λs c=>by cases c⟩
  clear h b
  induction x with
  | nil=>exact .nil
  | cons d l ih =>
   have g:=e d (WH ..)
   have j:=ih λd m=>e d (Wp _ m)
   have k:Cv sto ρ d d []:=by
    cases d with
    | lit v=>exact .lit
    | sl xs=>exact .sl
    | dp z l=>exact .dp
    | _=>cases g
   exact .cons k j) (λs c=>by cases c)
theorem Cv.to_dp{sto:Sto}{ρ:Ren}{d:DV}{z:Nat}{l:List (List DV)}{r:List Nat}(h:Cv sto ρ d (.dp z l) r):d = .dp z l:=by cases h;rfl
theorem CvL.to_dp{sto:Sto}{ρ:Ren}:∀ {xs ys:List DV} {r:List Nat},CvL sto ρ xs ys r->∀ (j:Nat) z l,ys[j]?=some (.dp z l)->xs[j]?=some (.dp z l)
 | _,_,_,.nil,j,z,l,h=>by simp at h
 | _,_,_,.cons h1 h2,j,z,l,h=>by
  cases j with
  | zero=>simp only[WR,Wz]at h ⊢;subst h;exact h1.to_dp
  | succ j=>simpa using CvL.to_dp h2 j z l (by simpa using h)
theorem Deep.conv{m m':Mem}{a:Nat->Prop}{z g:Nat}{e:Bool}{xs ys:List (List DV)}(d:Deep m a ⟨z,false,e,xs⟩ g)(A:m'.w=m.w)(C:∀ {ob b cap},ob.arr=true->Row m ob b cap->Row m' ob b cap)
  (h:∀ (i:Nat) y (j:Nat) z l,ys[i]?=some y->y[j]?=some (.dp z l)->∃ x,xs[i]?=some x/\x[j]?=some (.dp z l)):Deep m' a ⟨z,false,e,ys⟩ g:=by
 obtain ⟨B,f,k⟩:=d;refine ⟨B,λi y j z l v w=>?_,k⟩;obtain ⟨x,n,o⟩:=h i y j z l v w;obtain ⟨u,p,c⟩:=f i x j z l n o;refine ⟨u,by rw[A];exact p,?_⟩;cases hB:B i j with
 | none=>rw[hB]at c;exact c
 | some b =>rw[hB]at c;obtain ⟨q,r,s,t⟩:=c;exact ⟨q,r,s,C rfl t⟩
section
variable{P:Program}{nt n0:Nat}{Q:Exit->DSt->Prop}{st:DSt}
def renσ(σ:Nat->Option (Option Ent))(ρ:Ren)(fr:List Nat)(n0:Nat):Nat->Option (Option Ent):=λs'=>match ρ.get s' with
 | some s=>if s∈fr then(σ s).map (λx=>x.map λe=>{ e with mu:=false }) else σ s
 | none=>if s' < n0 then some none else none
theorem weak_mem{F:Fm}{m:Mem}(B:Inv F m){sto:Sto}(hs:∀ s ob,sto.get s=some ob->QH m s ob){ρ:Ren}{fr:List Nat}{I:Nat}(ab:okR ρ fr n0 I=true){S:Sto}{fr':List Nat}(hS:CvS sto ρ S fr')(J:∀ s∈fr',s∈fr)
  {σ0:Nat->Option (Option Ent)}(ac:QeC σ0 m.σ)(ad:∀ s,n0<=s->σ0 s=none) :
  ∃ m':Mem,m'.w=m.w/\m'.M=m.M/\Inv F m'/\(∀ d d' r v,Cv sto ρ d d' r->(∀ s∈r,s∈fr)->Rep m v d->Rep m' v d')/\(∀ s ob,S.get s=some ob->QH m' s ob)/\QeC σ0 m'.σ/\∀ s,I<=s->m'.σ s=none:=by
 simp only[okR,Vh,WZ,decide_eq_true_eq,VF]at ab;obtain ⟨⟨o1,o2⟩,o3⟩:=ab;have D:∀ {f s},ρ.get f=some s->f < I/\(f < n0->f=s)/\s∉fr:=λ{f s} h=>by
  obtain ⟨⟨q1,q2⟩,W⟩:=o2 _ (Ren.get_mem h);dsimp only at q1 q2 W;refine ⟨q1,λhn=>?_,λag=>?_⟩
  ·simpa [hn] using q2
  ·rw[Uh.2 ag]at W;cases W
 let m':Mem:=⟨m.w,m.M,renσ m.σ ρ fr n0⟩;have w:∀ {f e},m'.σ f=some (some e)->∃ s,ρ.get f=some s/\m.σ s=some (some e):=λ{f e} h=>by
  change renσ m.σ ρ fr n0 f=_ at h;unfold renσ at h;split at h
  ·rename_i s n;rw[if_neg (D n).2.2]at h;exact ⟨s,n,h⟩
  ·split at h <;> simp at h
 have K:∀ {f s},ρ.get f=some s->m'.σ f=m.σ s:=λ{f s} n=>by show renσ m.σ ρ fr n0 f=_;unfold renσ;rw[n];dsimp only;rw[if_neg (D n).2.2]
 have Y:∀ k,m'.no k->m.no k:=λk h=>by
  rcases h with h | ⟨f,e,A,C,h3⟩
  ·exact .inl h
  ·obtain ⟨s,_,L⟩:=w A;exact .inr ⟨s,e,L,C,h3⟩
 have hσ:EntIs m.σ m'.σ ρ:=λf s n=>by rw[K n];exact ⟨id,λe he=>.inr ⟨e,he,rfl,rfl⟩⟩
 have ae:∀ s∈fr,∀ e g,m.σ s=some (some e)->e.has g->¬ m'.no g:=λs H e g A C h=>by
  rcases h with h | ⟨t',e',M,L,k3⟩
  ·exact (B.at_ s e g A C).2.1 h
  ·obtain ⟨t,j1,P⟩:=w M;have:=B.inj s t e e' g A P C k3;subst this;exact (D j1).2.2 H
 have Z:∀ d d' r v,Cv sto ρ d d' r->(∀ s∈r,s∈fr)->Rep m v d->Rep m' v d':=λd d' r v hc n hv =>
  hc.rep (m:=m) (m':=m') rfl Y hσ B (λs H ob ah=>⟨ob.frz,hs s ob ah⟩) (λs H=>ae s (n s H)) hv
 have hp:∀ {v d},PRep m.w m.no v d->PRep m'.w m'.no v d:=λh=>PRep.ext (Wl _) (λk _ hk=>⟨rfl,λh=>hk (Y k h)⟩) h;refine ⟨m',rfl,rfl,⟨B.os,B.tape,B.output,B.size,B.old,?_,?_,B.lt,λs e g c A C=>by obtain ⟨t,_,P⟩:=w A;exact B.wf t e g c P C,B.tab⟩,Z,?_,?_,?_⟩
 ·intro s1 s2 e e' g A C h3 h4;obtain ⟨t1,j1,P⟩:=w A;obtain ⟨t2,M,L⟩:=w C;have:=B.inj t1 t2 e e' g P L h3 h4;subst this;exact Qdq o1 (Ren.get_mem j1) (Ren.get_mem M)
 ·intro s e g A C;obtain ⟨t,j1,P⟩:=w A;exact B.at_ t e g P C
 ·induction hS with
  | nil=>intro s ob h;cases h
  | @cons f s ob ob' l r r' A C h3 _ ih =>
   intro t af X;rw[Sto.get_cons]at X;split at X
   ·rename_i hts;injection X with X;subst hts;subst X;obtain ⟨e,q1,q2,W,a⟩:=hs s ob C;have rows:∀ {ob b G},ob.arr=true->Row m ob b G->Row m' ob b G:=λ{ob b G} ha a=>by obtain ⟨Q,T,c1,c2,c3⟩:=a.cells;refine ⟨⟨Q,T,c1,c2,λi x j d q V=>?_⟩,a.len,a.max,a.pos,a.sz⟩;obtain ⟨u,hu,R,N⟩:=c3 i x j d q V;rw[ha]at N;exact ⟨u,hu,R,by rw[ha];exact hp N⟩
    cases h3 with
    | arr ha =>
     refine ⟨e,by rw[K A];exact q1,q2,W,?_⟩;cases hb:e.blk with
     | none=>rw[hb]at a;exact a
     | some p =>obtain ⟨g,G⟩:=p;rw[hb]at a;have:=rows ha a.1;exact ⟨this,this.deep ha _⟩
    | @rows z fz xs O frr hlen hcv _ =>
     refine ⟨e,by rw[K A];exact q1,q2,W,?_⟩;have at_:∀ {i:Nat} {y},O[i]?=some y->∃ x,xs[i]?=some x:=λ{i y} o=>by
      rcases Ws i xs.length with h' | h'
      ·exact ⟨_,Wa h'⟩
      ·rw[Wi Oo]at o;cases o
     cases hb:e.blk with
     | none =>rw[hb]at a;obtain ⟨a,q5⟩:=a;refine ⟨?_,q5⟩;have:xs=[]:=a;subst this;exact VA.1 hlen.symm
     | some p =>
      obtain ⟨g,G⟩:=p;rw[hb]at a;obtain ⟨a,q5⟩:=a;obtain ⟨Q,T,c1,c2,c3⟩:=a.cells;have E:∀ {xs O:List DV} {r:List Nat},CvL sto ρ xs O r->(∀ s∈r,s∈fr)->xs.length=O.length/\∀ (i:Nat) x y,xs[i]?=some x->O[i]?=some y->∀ v,Rep m v x->Rep m' v y:=by
       intro xs;induction xs with
       | nil=>intro O r h _;cases h;exact ⟨rfl,λi x y q=>by simp at q⟩
       | cons x xs ihx =>
        intro O r h n;cases h with
        | @cons _ y _ O r1 r2 hc hl =>
         obtain ⟨z1,z2⟩:=ihx hl λs h=>n s (Wj _ h);refine ⟨by simp[z1],λi x' y' q o v hv=>?_⟩;cases i with
         | zero =>simp only[WR,Wz]at q o;subst q;subst o;exact Z _ _ _ v hc (λs h=>n s (Wg _ h)) hv
         | succ i=>exact z2 i x' y' (by simpa using q) (by simpa using o) v hv
      refine ⟨⟨⟨Q,T,c1,c2,λi y j d o V=>?_⟩,by have:=a.len;dsimp only at this ⊢;omega,a.max,a.pos,λi y o=>?_⟩,q5.conv rfl rows λi y j z l o V=>?_⟩
      ·dsimp only at o ⊢;obtain ⟨x,q⟩:=at_ o;obtain ⟨r,M,L⟩:=hcv i x y q o;obtain ⟨z1,z2⟩:=E M λs h=>J s (Wg _ (L s h));have aa:j<x.length:=by
        rcases Ws j y.length with h' | h'
        ·omega
        ·rw[Wi h']at V;cases V
       obtain ⟨u,hu,R,N⟩:=c3 i x j x[j] q (Wa aa);exact ⟨u,hu,R,z2 j _ d (Wa aa) V u N⟩
      ·dsimp only at o ⊢;obtain ⟨x,q⟩:=at_ o;obtain ⟨r,M,L⟩:=hcv i x y q o;obtain ⟨z1,z2⟩:=E M λs h=>J s (Wg _ (L s h));have:=a.sz i x q;dsimp only at this;omega
      ·obtain ⟨x,q⟩:=at_ o;obtain ⟨r,M,L⟩:=hcv i x y q o;exact ⟨x,q,M.to_dp j z l V⟩
   ·exact ih (λs h=>J s (Wj _ h)) t af X
 ·intro s x0 U;have hn:s<n0:=by
   rcases Ws s n0 with h | h
   ·exact h
   ·rw[ad s h]at U;cases U
  cases n:ρ.get s with
  | none=>exact ⟨none,by show renσ m.σ ρ fr n0 s=_;unfold renσ;rw[n];simp[hn],λe h=>by cases h⟩
  | some t =>have:s=t:=(D n).2.1 hn;subst this;rw[K n];exact ac s x0 U
 ·intro s H;show renσ m.σ ρ fr n0 s=none;unfold renσ;cases n:ρ.get s with
  | none=>dsimp only;rw[if_neg Oo]
  | some t=>have:=(D n).1;omega
def WeakE(n0:Nat)(b a:DSt):Prop:=∃ ρ fr1 fr2,CvE b.sto ρ b.env a.env fr1/\CvS b.sto ρ a.sto fr2/\okR ρ (fr1++fr2) n0 a.nxt=true
theorem CvE.get{sto:Sto}{ρ:Ren}{env a:Env}{fr:List Nat}(h:CvE sto ρ env a fr)(k:Nat):∃ r,Cv sto ρ (env.get k) (a.get k) r/\∀ s∈r,s∈fr:=by
 induction h with
 | nil=>exact ⟨[],.any,λs b=>by cases b⟩
 | @cons j d l r r' h1 _ ih =>
  rw[Env.get_cons];by_cases c:k=j
  ·rw[if_pos c];subst c;exact ⟨r,h1,λs b=>Wg _ b⟩
  ·rw[if_neg c];obtain ⟨r1,e,f⟩:=ih;exact ⟨r1,e,λs b=>Wj _ (f s b)⟩
theorem WeakE.sim{C:Cx}{e d:DSt}(h:WeakE C.n0 e d){a:Act}{w:World}(c:Sim C e a w):Sim C d a w:=by obtain ⟨ρ,f,g,i,j,l⟩:=h;obtain ⟨m,rfl,b,A⟩:=c;obtain ⟨n,o,p,q,t,u,v,x⟩:=weak_mem b.inv b.sto l j (λs c=>Wj _ c) b.org b.lim0;refine ⟨n,o,⟨q,p.trans b.M,b.size,b.defers,v,b.lim0,λk=>?_,u⟩,x⟩;obtain ⟨r,y,z⟩:=i.get k;exact t _ _ r _ y (λs c=>Wg _ (z s c)) (b.env k)
def ZB(n0:Nat)(c b:DSt):Prop:=∀ C:Cx,C.n0=n0->∀ a w,Sim C c a w->Sim C b a w
theorem WeakE.weak{c b:DSt}(h:WeakE n0 c b):ZB n0 c b:=λC d a w e=>WeakE.sim (d▸h) e
theorem ZB.sim{C:Cx}{c b:DSt}(h:ZB C.n0 c b){a:Act}{w:World}(d:Sim C c a w):Sim C b a w:=h C rfl a w d
theorem ZB.trans{e c b:DSt}(h:ZB n0 e c)(k:ZB n0 c b):ZB n0 e b:=λC d a w f=>k C d a w (h C d a w f)
theorem Qq{c:Code}{b:DSt}(g:ZB n0 st b)(h:DWp P nt n0 c Q b):DWp P nt n0 c Q st:=λC e d a w f=>h C e d a w (ZB.sim (d▸g) f)
theorem d_nil{c:Code}{env:Env}{sto:Sto}{nxt:Nat}(k z:Nat)(v:0<z)(u:env.get k = .lit (.slice none 0 0))(h:DWp P nt n0 c Q ⟨env.put (some k) (.own nxt 0 0),(nxt,⟨z,true,false,[]⟩) :: sto.drop nxt,nxt+1⟩):DWp P nt n0 c Q ⟨env,sto,nxt⟩:=λC q r a w b=>by
 refine h C q r a w ?_;obtain ⟨m,rfl,d,l⟩:=b;have o:m.σ nxt=none:=l nxt (Wl _);obtain ⟨p,f⟩:=Qdn d.inv o m.w ⟨z,none,true,noI⟩ rfl rfl rfl (Wl _) (λ_ _=>rfl) (λg c h=>by cases h);refine ⟨⟨m.w,m.M,Z3 m.σ nxt (some ⟨z,none,true,noI⟩)⟩,rfl,⟨p,d.M,d.size,d.defers,d.org.trans f.ent,d.lim0,λj=>?_,λs t b=>?_⟩,λs b=>?_⟩
 ·rw[Env.put_get];by_cases n:j=k
  ·subst n;rw[if_pos rfl];have i:=d.env j;rw[show env.get j=DV.lit (.slice none 0 0) from u]at i;rw[i.lit_inv];exact .ownNil (Qh _ _ _) rfl
  ·rw[if_neg n];exact (d.env j).ext f.toExt
 ·simp only[Sto.get_cons,Sto.drop_get]at b;by_cases e:s=nxt
  ·subst e;rw[if_pos rfl]at b;injection b with b;subst b;exact ⟨_,Qh _ _ _,rfl,rfl,rfl,v⟩
  ·rw[if_neg e,if_neg e]at b;exact QH.loc d.inv f (by simpa using e) (d.sto s t b)
 ·dsimp only at b ⊢;rw[Zi _ _ Oo];exact l s (by dsimp only;omega)
theorem least_nat{p:Nat->Prop}:∀ (n:Nat),p n->∃ k,p k/\∀ j,p j->k<=j:=by
 intro n;induction n using Nat.strongRecOn with
 | _ n ih =>
  intro h;by_cases b:∃ j,j<n/\p j
  ·obtain ⟨j,a,c⟩:=b;exact ih j a c
  ·exact ⟨n,h,λj a=>by
    rcases Ws j n with h' | h'
    ·exact absurd ⟨j,h',a⟩ b
    ·exact h'⟩
theorem d_loop{α:Type}{b:Code}(I:α->DSt)(p:α->Prop)(μ:α->Nat)(l:α)(B:p l)(D:ZB n0 st (I l))
  (E:∀ x,p x->DWp P nt n0 b (QcT (λs=>∃ x',p x'/\μ x' < μ x/\ZB n0 s (I x')) Q) (I x)):DWp P nt n0 (.loop b) Q st:=λC y z a w A=>by
 subst z
 let J:Act->World->Nat->Prop:=λa w n=>∃ x,p x/\Sim C (I x) a w/\μ x=n
 have f:∀ a w,(∃ x,p x/\Sim C (I x) a w)->∃ k,J a w k/\∀ j,J a w j->k<=j:=λa w ⟨x,g,i⟩=>least_nat (p:=J a w) (μ x) ⟨x,g,i,rfl⟩
 refine wp_loop (λa w=>∃ x,p x/\Sim C (I x) a w) (λa w=>open Classical in if h:∃ x,p x/\Sim C (I x) a w then Classical.choose (f a w h) else 0) ⟨l,B,D.sim A⟩ λa w o=>?_
 obtain ⟨⟨x,g,i,F⟩,G⟩:=Classical.choose_spec (f a w o)
 refine wp_mono (E x g C y rfl a w i) λe q r ⟨s,t,u⟩=>?_
 cases e with
 | normal =>
  obtain ⟨x',m,H,v⟩:=t
  have d:=v.sim u
  have c:∃ x,p x/\Sim C (I x) q r:=⟨x',m,d⟩
  refine ⟨c,?_⟩
  rw[dif_pos o,dif_pos c]
  have:=(Classical.choose_spec (f q r c)).2 (μ x') ⟨x',m,d,rfl⟩
  omega
 | _=>exact ⟨s,t,u⟩
theorem d_cut{α:Type}{x y:Code}(I:α->DSt)(p:α->Prop)(g:DWp P nt n0 x (QcT (λs=>∃ b,p b/\ZB n0 s (I b)) Q) st)(f:∀ b,p b->DWp P nt n0 y Q (I b)):DWp P nt n0 (.seq x y) Q st :=
 d_seq λK d=>g.mono λe s h=>by
  cases e with
  | normal=>obtain ⟨b,a,c⟩:=h;exact d _ (Qq c (f b a))
  | _=>exact h
inductive ResL(P:Program)(st:DSt):List ResultVar->List DV->Prop
 | nil:ResL P st [] []
 | tmp {t:Nat} {l:List ResultVar} {ds:List DV}:ResL P st l ds->ResL P st (.tmp t :: l) (st.env.get t :: ds)
 | cell {t ty:Nat} {td:TyD} {k i j:Nat} {ob:Ob} {x:List DV} {d:DV} {l:List ResultVar} {ds:List DV}:QB P ty td->st.env.get t = .ptr k i j->st.sto.get k=some ob->ob.els[i]?=some x->ldD td (x.drop j)=some d->ResL P st l ds->ResL P st (.cell t ty :: l) (d :: ds)
def resV:List DV->DV
 | [d]=>d
 | ds=>.tup ds
def resVal(a:Act):ResultVar->Sem Value
 | .tmp t=>pure (a.tmps.getD t undef)
 | .cell x t=>do loadVar t (<- asAddr (a.tmps.getD x undef))
theorem res_run{m:Mem}{a:Act}(w:∀ k,Rep m (a.tmps.getD k undef) (st.env.get k))(H:∀ s ob,st.sto.get s=some ob->QH m s ob){l:List ResultVar}{ds:List DV}(h:ResL P st l ds) :
  ∃ vs:List Value,(l.mapM (resVal a)).run P m.w = .ok vs m.w/\Reps m vs ds:=by
 induction h with
 | nil=>exact ⟨[],Os,rfl,λi v d b=>by simp at b⟩
 | @tmp t l ds _ ih =>
  obtain ⟨vs,f,o,y⟩:=ih;refine ⟨a.tmps.getD t undef :: vs,?_,by simp[o],λi v d b p=>?_⟩
  ·rw[Y4];simp only[resVal,Sem.run_bind,Sem.run_pure,Result.andThen_ok,f]
  ·cases i with
   | zero=>simp only[WR,Wz]at b p;subst b;subst p;exact w t
   | succ i=>exact y i v d (by simpa using b) (by simpa using p)
 | @cell t ty td k i j ob x d l ds ht f o h4 h5 _ ih =>
  obtain ⟨vs,z,A,B⟩:=ih;have r:=w t;rw[f]at r;obtain ⟨e,g,C,_,_,_,_,D,E⟩:=Qch r (H k ob o);obtain ⟨v,F,G⟩:=load_ok (P:=P) ht ((E.cellsAt h4).drop (k:=j)) h5;refine ⟨v :: vs,?_,by simp[A],λn u e q c=>?_⟩
  ·rw[Y4];have:(loadVar ty ⟨g,i*ob.esz+j,none⟩).run P m.w = .ok v m.w:=by simpa [Instr.loadAt,Instr.sureAddr] using F
   have b:(resVal a (.cell t ty)).run P m.w = .ok v m.w:=by simp[resVal,D,asAddr,this]
   simp only[Sem.run_bind,Sem.run_pure,Result.andThen_ok,z,b]
  ·cases n with
   | zero=>simp only[WR,Wz]at q c;subst q;subst c;exact G
   | succ n=>exact B n u e (by simpa using q) (by simpa using c)
def Xof(σ:Nat->Option (Option Ent))(k:Nat):Prop:=∃ s e,σ s=some (some e)/\e.mu=true/\e.has k
def Yof(σ:Nat->Option (Option Ent))(k:Nat):Prop:=∃ s e,σ s=some (some e)/\e.has k
def idb(S:Sto)(n:Nat):Nat:=S.foldr (λp k=>max (p.1+1) k) n
def DCall(P:Program)(f:FuncId)(ds:List DV)(S:Sto)(r:DV)(b:Sto):Prop := (∀ args w,(callFunc f args).run P w = .ok (.enter f args) w) /\ ∀ (w:World) (M:Nat->Prop) (σ:Nat->Option (Option Ent)) (vs:List Value),Inv ⟨w,Xof σ,Yof σ⟩ ⟨w,M,σ⟩->(∀ s ob,S.get s=some ob->QH ⟨w,M,σ⟩ s ob)->(∀ s,S.length<=s->σ s=none)->Reps ⟨w,M,σ⟩ vs ds -> Calls P f vs.toArray w λe a=>∃ v σ',e = .returned v/\Inv ⟨w,Xof σ,Yof σ⟩ ⟨a,M,σ'⟩/\QeC σ σ'/\Rep ⟨a,M,σ'⟩ v r/\(∀ s ob,b.get s=some ob->QH ⟨a,M,σ'⟩ s ob)/\∀ s,idb b S.length<=s->σ' s=none
def envOf:Nat->List DV->Env
 | _,[]=>[]
 | k,d :: l=>(k,d) :: envOf (k+1) l
theorem envOf_get(ds:List DV)(k i:Nat):(envOf k ds).get i=if k<=i then(ds[i-k]?).getD .any else .any:=by
 induction ds generalizing k with
 | nil=>simp[envOf,Env.get_nil]
 | cons d l ih =>
  simp only[envOf,Env.get_cons,ih];by_cases a:i=k
  ·subst a;simp
  ·rw[if_neg a];by_cases b:k<=i
   ·rw[if_pos Oo,if_pos b,show i-k=(i-(k+1))+1 by omega,V7]
   ·rw[if_neg Oo,if_neg b]
def RetD(P:Program)(c:Func)(n0:Nat)(r:DV)(b:Sto)(e:Exit)(a:DSt):Prop := (e = .normal\/e = .ret)/\∃ ds ρ fr1 fr2,ResL P a c.results.toList ds/\Cv a.sto ρ (resV ds) r fr1/\CvS a.sto ρ b fr2/\okR ρ (fr1++fr2) n0 (idb b n0)=true
theorem DCall.mk {f:FuncId} {b:Func} {c:Code} {ds:List DV} {S:Sto} {r:DV} {G:Sto} (W:P.funcs[f]?=some b) (n:(b.name == "runtime.NumGoroutine")=false) (X:b.body=some c)
  (h:DWp P (ds.length+(b.ntmps-ds.length)) S.length c (RetD P b S.length r G) ⟨envOf 0 ds,S,S.length⟩):DCall P f ds S r G:=⟨λT w=>by
  have Y:¬ b.name= "runtime.NumGoroutine":=by simpa using n
  simp[callFunc,W,Y,X],λw M σ l hI hS U V=>by
 have p:l.length=ds.length:=V.1
 refine calls_of_wp W X ?_
 let C:Cx:=⟨⟨w,Xof σ,Yof σ⟩,M,ds.length+(b.ntmps-ds.length),S.length,σ⟩
 have q:Sim C ⟨envOf 0 ds,S,S.length⟩ { tmps:=l.toArray++Array.replicate (b.ntmps-l.toArray.size) undef,defers:=[] } w:=by
  refine ⟨⟨w,M,σ⟩,rfl,⟨hI,rfl,by simp[C,p],rfl,λs x h=>⟨x,h,λe' h=>⟨e',h,rfl,rfl⟩⟩,U,λk=>?_,hS⟩,U⟩;dsimp only;rw[envOf_get,if_pos (WO _),UR];by_cases R:k<ds.length
  ·rw[Wa R,WG,Vv,Uc (by simp;omega)];have t:k<l.length:=by omega
   have:=V.2 k l[k] ds[k] (Wa t) (Wa R);simpa [t] using this
  ·rw[Wi Oo];exact .any _
 refine wp_mono (h C rfl rfl _ w q) λe a w' ⟨st,⟨he,g,ρ,K,aa,q1,q2,q3,q4⟩,D⟩=>?_
 obtain ⟨m,rfl,i,hF⟩:=D
 obtain ⟨E,Z,k2,L,k4,N,k6,k7⟩:=weak_mem i.inv i.sto q4 q3 (λs D=>Wj _ D) i.org i.lim0
 obtain ⟨j,u1,J,F⟩:=res_run (P:=P) i.env i.sto q1
 have y:(results b a.tmps).run P m.w = .ok (if h:j.toArray.size=1 then j.toArray[0] else .tuple j.toArray) m.w:=by
  have z:results b a.tmps=(do let l <- b.results.mapM (resVal a);pure (if h:l.size=1 then l[0] else .tuple l)):=by unfold results;congr 1
  rw[z,Array.mapM_eq_mapM_toList];simp only[Sem.run_bind,Sem.run_map,u1,Result.andThen_ok,Sem.run_pure]
 have A:Rep m (if h:j.toArray.size=1 then j.toArray[0] else .tuple j.toArray) (resV g):=by
  by_cases o:j.toArray.size=1
  ·rw[dif_pos o];match j,g,J,F,o with
   | [u],[d],_,F,_=>exact F 0 u d rfl rfl
  ·rw[dif_neg o];have:resV g = .tup g:=by
    match g,j,J,o with
    | [],_,_,_=>rfl
    | [d],[u],_,o=>exact absurd rfl o
    | _ :: _ :: _,_,_,_=>rfl
   rw[this];exact .tup J F
 have B:∃ v,(results b a.tmps).run P m.w = .ok v m.w/\∃ v' σ',Ending.returned v = .returned v'/\Inv ⟨w,Xof σ,Yof σ⟩ ⟨m.w,M,σ'⟩/\QeC σ σ'/\Rep ⟨m.w,M,σ'⟩ v' r/\(∀ s ob,G.get s=some ob->QH ⟨m.w,M,σ'⟩ s ob)/\∀ s,idb G S.length<=s->σ' s=none:=by
  have H:E.M=M:=k2.trans i.M;have I:E=⟨m.w,M,E.σ⟩:=by rw[<- Z,<- H]
  have:=k4 _ _ K _ q2 (λs D=>Wg _ D) A;rw[I]at L this N;exact ⟨_,y,_,E.σ,rfl,L,k6,this,N,k7⟩
 obtain ⟨v,O,Q⟩:=B
 rcases he with rfl | rfl
 ·exact ⟨i.defers,v,O,Q⟩
 ·exact ⟨i.defers,v,O,Q⟩⟩
end
mutual
def ren (φ:Nat->Nat):DV->DV
 | .own s off len=>.own (φ s) off len
 | .ptr s i j=>.ptr (φ s) i j
 | .agg xs=>.agg (renL φ xs)
 | .tup xs=>.tup (renL φ xs)
 | .fn f xs=>.fn f (renL φ xs)
 | .any=>.any
 | .lit v=>.lit v
 | .sl xs=>.sl xs
 | .pp xs=>.pp xs
 | .dp z xs=>.dp z xs
def renL (φ:Nat->Nat):List DV->List DV
 | []=>[]
 | d :: l=>ren φ d :: renL φ l
end
theorem QbB(φ:Nat->Nat):∀ l,renL φ l=l.map (ren φ)
 | []=>by unfold renL;rfl
 | d :: l=>by unfold renL;rw[QbB φ l];rfl
def renO(φ:Nat->Nat)(a:Ob):Ob:=if a.arr then a else { a with els:=a.els.map (renL φ) }
inductive Sc:DV->Prop
 | any:Sc .any
 | lit {v:Value}:Sc (.lit v)
 | own {s off len:Nat}:Sc (.own s off len)
 | ptr {s i j:Nat}:Sc (.ptr s i j)
 | agg {xs:List DV}:(∀ d∈xs,Sc d)->Sc (.agg xs)
 | tup {xs:List DV}:(∀ d∈xs,Sc d)->Sc (.tup xs)
 | fn {f:FuncId} {xs:List DV}:(∀ d∈xs,Sc d)->Sc (.fn f xs)
def ScS(S:Sto):Prop:=∀ s ob,S.get s=some ob->∀ y∈ob.els,∀ d∈y,Sc d
theorem ren_rep{m1 g:Mem}{φ:Nat->Nat}(n:∀ s x,m1.σ s=some x->g.σ (φ s)=some x\/g.σ (φ s)=some none){v:Value}{d:DV}(h:Rep m1 v d)
  (o:Sc d\/(m1.w=g.w/\∀ k,g.no k->m1.no k)):Rep g v (ren φ d):=by
 have r:(m1.w=g.w/\∀ k,g.no k->m1.no k)->∀ {v d},PRep m1.w m1.no v d->PRep g.w g.no v d:=λ⟨l,q⟩ {v d} h=>PRep.ext (by rw[l];exact Wl _) (λk _ t=>⟨by rw[l],λh=>t (q k h)⟩) h;induction h with
 | any v=>unfold ren;exact .any v
 | dp v=>unfold ren;exact .dp v
 | @pure v d p =>
  cases p with
  | lit v h=>unfold ren;exact .pure (.lit v h)
  | nil a c h =>unfold ren;exact .pure (.nil a c h)
  | sl b off cap sz xs f h1 h2 h3 h4 h5 h6 h7 h8 h9 =>
   unfold ren;rcases o with h | h
   ·cases h
   ·exact .pure (r h (.sl b off cap sz xs f h1 h2 h3 h4 h5 h6 h7 h8 h9))
 | own h1 h2 h3 h4 =>
  unfold ren;rcases n _ _ h1 with h | h
  ·exact .own h h2 h3 h4
  ·exact .ownOld h
 | ownNil h1 h2 =>
  unfold ren;rcases n _ _ h1 with h | h
  ·exact .ownNil h h2
  ·exact .ownOld h
 | ownOld h1 =>unfold ren;rcases n _ _ h1 with h | h <;> exact .ownOld h
 | ptr h1 h2 =>
  unfold ren;rcases n _ _ h1 with h | h
  ·exact .ptr h h2
  ·exact .ptrOld h
 | ptrOld h1 =>unfold ren;rcases n _ _ h1 with h | h <;> exact .ptrOld h
 | pp f h1 h2 h3 h4 =>
  unfold ren;rcases o with h | h
  ·cases h
  ·obtain ⟨l,q⟩:=h;exact .pp f (λh=>h1 (q _ h)) (by rw[<- l];exact h2) (λj d e=>by rw[<- l];exact h3 j d e) (λj d e=>r ⟨l,q⟩ (h4 j d e))
 | @agg vs xs h1 h2 ih =>
  unfold ren;rw[QbB];refine .agg (by simpa using h1) λi v d m e=>?_;rw[Wh]at e;cases hx:xs[i]? with
  | none=>rw[hx]at e;cases e
  | some x =>rw[hx]at e;injection e with e;subst e;refine ih i v x m hx (o.imp (λh=>?_) id);cases h with | agg h=>exact h x (Wq hx)
 | @tup vs xs h1 h2 ih =>
  unfold ren;rw[QbB];refine .tup (by simpa using h1) λi v d m e=>?_;rw[Wh]at e;cases hx:xs[i]? with
  | none=>rw[hx]at e;cases e
  | some x =>rw[hx]at e;injection e with e;subst e;refine ih i v x m hx (o.imp (λh=>?_) id);cases h with | tup h=>exact h x (Wq hx)
 | @fn f vs xs h1 h2 ih =>
  unfold ren;rw[QbB];refine .fn (by simpa using h1) λi v d m e=>?_;rw[Wh]at e;cases hx:xs[i]? with
  | none=>rw[hx]at e;cases e
  | some x =>rw[hx]at e;injection e with e;subst e;refine ih i v x m hx (o.imp (λh=>?_) id);cases h with | fn h=>exact h x (Wq hx)
theorem ren_dp{φ:Nat->Nat}{d:DV}{z:Nat}{l:List (List DV)}(h:ren φ d = .dp z l):d = .dp z l:=by cases d <;> unfold ren at h <;> first | (cases h;done) | exact h
theorem ren_holds{m1 w:Mem}{φ:Nat->Nat}(hσ:∀ s x,m1.σ s=some x->w.σ (φ s)=some x\/w.σ (φ s)=some none){s:Nat}{n:Ob}(h:QH m1 s n)(hs:w.σ (φ s)=m1.σ s)(v:m1.w=w.w)
  (Q:(∀ y∈n.els,∀ d∈y,Sc d)\/∀ k,w.no k->m1.no k):QH w (φ s) (renO φ n):=by
 obtain ⟨e,U,V,W,q⟩:=h;have R:(renO φ n).esz=n.esz:=by unfold renO;split <;> rfl
 have S:(renO φ n).frz=n.frz:=by unfold renO;split <;> rfl
 refine ⟨e,hs.trans U,by rw[R];exact V,by rw[S];exact W,?_⟩;cases hb:e.blk with
 | none =>rw[hb]at q;obtain ⟨L,A⟩:=q;exact ⟨by unfold renO;split <;> simp[L],by rw[R];exact A⟩
 | some p =>
  obtain ⟨g,D⟩:=p;rw[hb]at q;obtain ⟨q,X⟩:=q;obtain ⟨t,T,H,I,J⟩:=q.cells;unfold renO;by_cases G:n.arr=true
  ·rw[if_pos G];suffices row:Row w n g D from ⟨row,row.deep G _⟩;refine ⟨⟨t,T,by rw[<- v];exact H,I,λi x j d a c=>?_⟩,q.len,q.max,q.pos,q.sz⟩;obtain ⟨u,E,r,f⟩:=J i x j d a c;refine ⟨u,E,r,?_⟩;rw[G]at f ⊢;rcases Q with h | h
   ·have K:=h x (Wq a) d (Wq c);change PRep _ _ _ _ at f;show PRep _ _ _ _;cases K <;> first | (cases f;done) | (cases f with | lit _ h=>exact .lit _ h)
   ·exact PRep.ext (by rw[v];exact Wl _) (λk _ O=>⟨by rw[v],λP=>O (h k P)⟩) f
  ·rw[if_neg G];have o:∀ (i:Nat) y (j:Nat) z l,(n.els.map (renL φ))[i]?=some y->y[j]?=some (.dp z l)->∃ x,n.els[i]?=some x/\x[j]?=some (.dp z l):=λi y j z l m c=>by
    rw[Wh]at m;cases a:n.els[i]? with
    | none=>rw[a]at m;cases m
    | some x =>
     rw[a]at m;injection m with m;subst m;rw[QbB,Wh]at c;cases hq:x[j]? with
     | none=>rw[hq]at c;cases c
     | some d =>rw[hq]at c;injection c with c;exact ⟨x,rfl,by rw[hq,ren_dp c]⟩
   have C:Deep w e.inn { n with els:=n.els.map (renL φ) } g:=by
    rcases Q with h | h
    ·refine Deep.flat λi y j z l m c=>?_;obtain ⟨x,M,N⟩:=o i y j z l m c;have:=h x (Wq M) _ (Wq N);cases this
    ·obtain ⟨B,Y,Z⟩:=X;refine ⟨B,λi y j z l m c=>?_,Z⟩;obtain ⟨x,M,N⟩:=o i y j z l m c;obtain ⟨u,L,A⟩:=Y i x j z l M N;refine ⟨u,by rw[<- v];exact L,?_⟩;cases hB:B i j with
     | none=>rw[hB]at A;exact A
     | some b =>rw[hB]at A;obtain ⟨p1,cp,p2,F⟩:=A;obtain ⟨t,T,H,I,J⟩:=F.cells;refine ⟨p1,cp,p2,⟨⟨t,T,by rw[<- v];exact H,I,λi x j d a c=>?_⟩,F.len,F.max,F.pos,F.sz⟩⟩;obtain ⟨u,E,r,f⟩:=J i x j d a c;exact ⟨u,E,r,PRep.ext (by rw[v];exact Wl _) (λk _ O=>⟨by rw[v],λP=>O (h k P)⟩) f⟩
   suffices row:Row w { n with els:=n.els.map (renL φ) } g D from ⟨row,C⟩;refine ⟨⟨t,T,by rw[<- v];exact H,I,λi x j d a c=>?_⟩,by simpa using q.len,q.max,q.pos,λi x a=>?_⟩
   ·dsimp only at a;rw[Wh]at a;cases m:n.els[i]? with
    | none=>rw[m]at a;cases a
    | some y =>
     rw[m]at a;injection a with a;subst a;rw[QbB,Wh]at c;cases hz:y[j]? with
     | none=>rw[hz]at c;cases c
     | some z =>rw[hz]at c;injection c with c;subst c;obtain ⟨u,E,r,f⟩:=J i y j z m hz;refine ⟨u,E,r,?_⟩;simp only[G]at f ⊢;exact ren_rep hσ f (Q.imp (λh=>h y (Wq m) z (Wq hz)) λh=>⟨v,h⟩)
   ·dsimp only at a;rw[Wh]at a;cases m:n.els[i]? with
    | none=>rw[m]at a;cases a
    | some y =>rw[m]at a;injection a with a;subst a;rw[QbB,Wb];exact q.sz i y m
def Ren.inv:Ren->Nat->Option Nat
 | [],_=>none
 | (k,s) :: l,j=>cond (Nat.beq j s) (some k) (Ren.inv l j)
theorem Ren.inv_some{ρ:Ren}{s a:Nat}(h:ρ.inv s=some a):(a,s)∈ρ:=by
 induction ρ with
 | nil=>cases h
 | cons p l ih =>
  obtain ⟨k,x⟩:=p;simp only[Ren.inv,JC]at h;split at h
  ·rename_i hk;injection h with h;subst hk;subst h;simp
  ·exact Wp _ (ih h)
theorem Ren.inv_in{ρ:Ren}{s b:Nat}(h:(b,s)∈ρ):∃ t,ρ.inv s=some t:=by
 induction ρ with
 | nil=>cases h
 | cons p l ih =>
  obtain ⟨k,x⟩:=p;simp only[Ren.inv,JC];by_cases a:s=x
  ·exact ⟨k,by rw[if_pos a]⟩
  ·rw[if_neg a];rcases Wu.1 h with h | h
   ·injection h with _ h;exact absurd h a
   ·exact ih h
def phi(ρ:Ren)(n0 nxt:Nat)(a:Nat):Nat:=match ρ.get a with | some s=>s | none=>nxt+(a - n0)
def okC(ρ:Ren)(fr:List Nat)(n0:Nat):Bool := Qfh (ρ.map (·.2)) && Qfh (ρ.map (·.1)) && (ρ.all λp=>decide (p.1<n0) && !fr.contains p.2) && ((List.range n0).all λi=>(ρ.get i).isSome)
def Qa4(ρ:Ren)(n0 nxt:Nat)(a:Sto):List (Nat×Option Ob) := (ρ.map λp=>(p.2,(a.get p.1).map (renO (phi ρ n0 nxt))))++(List.range (idb a n0-n0)).map λi=>(nxt+i,(a.get (n0+i)).map (renO (phi ρ n0 nxt)))
theorem QeO:∀ {ρ:Ren},Qfh (ρ.map (·.1))=true->∀ {a s:Nat},(a,s)∈ρ->ρ.get a=some s
 | [],_,_,_,h=>by cases h
 | (k,x) :: l,hn,a,s,h=>by
  simp only[Vj,Qfh,Vh,VF]at hn;simp only[Ren.get,JC];rcases Wu.1 h with h1 | h1
  ·injection h1 with h1 b;subst h1;subst b;rw[if_pos rfl]
  ·rw[if_neg λc=>?_]
   ·exact QeO hn.2 h1
   ·subst c;have:(l.map (·.1)).contains a=true:=Uh.2 (Wm.2 ⟨_,h1,rfl⟩);rw[hn.1]at this;cases this
section
variable{P:Program}{F:Fm}{sto:Sto}
theorem CvL.reps{m m':Mem}{ρ:Ren}{fr:List Nat}(o:∀ d d' r v,Cv sto ρ d d' r->(∀ s∈r,s∈fr)->Rep m v d->Rep m' v d'){xs ys:List DV}{r:List Nat}(h:CvL sto ρ xs ys r)(e:∀ s∈r,s∈fr){vs:List Value}(c:Reps m vs xs):Reps m' vs ys:=by
 have f:∀ {xs ys:List DV} {r:List Nat},CvL sto ρ xs ys r->(∀ s∈r,s∈fr)->xs.length=ys.length/\∀ (i:Nat) x y,xs[i]?=some x->ys[i]?=some y->∀ v,Rep m v x->Rep m' v y:=by
  intro xs;induction xs with
  | nil=>intro ys r h _;cases h;exact ⟨rfl,λi x y b=>by simp at b⟩
  | cons x xs ihx =>
   intro ys r h e;cases h with
   | @cons _ y _ ys r1 r2 hc hl =>
    obtain ⟨g,j⟩:=ihx hl λs h=>e s (Wj _ h);refine ⟨by simp[g],λi p q b k v c=>?_⟩;cases i with
    | zero =>simp only[WR,Wz]at b k;subst b;subst k;exact o _ _ _ v hc (λs h=>e s (Wg _ h)) c
    | succ i=>exact j i p q (by simpa using b) (by simpa using k) v c
 obtain ⟨g,j⟩:=f h e;refine ⟨by rw[c.1,g],λi v d l n=>?_⟩;have a:i<xs.length:=by
  rcases Ws i ys.length with h' | h'
  ·omega
  ·rw[Wi h']at n;cases n
 exact j i _ d (Wa a) n v (c.2 i v _ l (Wa a))
theorem CvS.holds{m m':Mem}{ρ:Ren}{fr:List Nat}(V:m'.w=m.w)(hp:∀ {v d},PRep m.w m.no v d->PRep m'.w m'.no v d)(W:∀ d d' r v,Cv sto ρ d d' r->(∀ s∈r,s∈fr)->Rep m v d->Rep m' v d')(G:∀ {s' s},ρ.get s'=some s->m'.σ s'=m.σ s)
  {S:Sto}{fr':List Nat}(hS:CvS sto ρ S fr')(B:∀ s∈fr',s∈fr)(hs:∀ s' s ob,ρ.get s'=some s->sto.get s=some ob->QH m s ob):∀ s ob,S.get s=some ob->QH m' s ob:=by
 induction hS with
 | nil=>intro s ob h;cases h
 | @cons s' s ob ob' l r r' H h2 h3 _ ih =>
  intro t R E;rw[Sto.get_cons]at E;split at E
  ·rename_i hts;injection E with E;subst hts;subst E;obtain ⟨e,X,Y,Z,a⟩:=hs _ s ob H h2;have rows:∀ {ob b q},ob.arr=true->Row m ob b q->Row m' ob b q:=λ{ob b q} F a=>by obtain ⟨o,T,L,M,N⟩:=a.cells;refine ⟨⟨o,T,by rw[V];exact L,M,λi x j d n f=>?_⟩,a.len,a.max,a.pos,a.sz⟩;obtain ⟨u,O,D,w⟩:=N i x j d n f;rw[F]at w;exact ⟨u,O,D,by rw[F];exact hp w⟩
   cases h3 with
   | arr F =>
    refine ⟨e,by rw[G H];exact X,Y,Z,?_⟩;cases hb:e.blk with
    | none=>rw[hb]at a;exact a
    | some p =>obtain ⟨g,q⟩:=p;rw[hb]at a;have:=rows F a.1;exact ⟨this,this.deep F _⟩
   | @rows z fz xs ys frr hlen hcv _ =>
    refine ⟨e,by rw[G H];exact X,Y,Z,?_⟩;have at_:∀ {i:Nat} {y},ys[i]?=some y->∃ x,xs[i]?=some x:=λ{i y} k=>by
     rcases Ws i xs.length with h' | h'
     ·exact ⟨_,Wa h'⟩
     ·rw[Wi Oo]at k;cases k
    cases hb:e.blk with
    | none =>rw[hb]at a;obtain ⟨a,P⟩:=a;refine ⟨?_,P⟩;have:xs=[]:=a;subst this;exact VA.1 hlen.symm
    | some p =>
     obtain ⟨g,q⟩:=p;rw[hb]at a;obtain ⟨a,P⟩:=a;obtain ⟨o,T,L,M,N⟩:=a.cells;have A:∀ (i:Nat) x y,xs[i]?=some x->ys[i]?=some y->x.length=y.length/\∀ j d,y[j]?=some d->∃ u,o[i*z+j]?=some u/\u.oneCell'=true/\Rep m' u d:=λi x y n k=>by
      obtain ⟨r,Q,k2⟩:=hcv i x y n k;have C:∀ j (I:j<x.length),∃ u,o[i*z+j]?=some u/\u.oneCell'=true/\Rep m u x[j]:=λj I=>by obtain ⟨u,O,D,w⟩:=N i x j x[j] n (Wa I);exact ⟨u,O,D,w⟩
      let us:=(List.range x.length).map λj=>if I:j<x.length then Classical.choose (C j I) else undef;have J:Reps m us x:=⟨by simp[us],λi v d U f=>by
       have c:i<x.length:=by
        rcases Ws i x.length with h' | h'
        ·exact h'
        ·rw[Wi h']at f;cases f
       rw[Wa c]at f
       injection f with f
       subst f
       simp only[us,Wh,VH c,Wx,Wz]at U
       rw[dif_pos c]at U
       subst U
       exact (Classical.choose_spec (C i c)).2.2⟩
      obtain ⟨z1,z2⟩:=CvL.reps W Q (λs h=>B s (Wg _ (k2 s h))) J;have K:x.length=y.length:=by simpa [us] using z1
      refine ⟨K,λj d f=>?_⟩;have c:j<x.length:=by
       rcases Ws j y.length with h' | h'
       ·omega
       ·rw[Wi h']at f;cases f
      obtain ⟨k3,k4,_⟩:=Classical.choose_spec (C j c);refine ⟨_,k3,k4,z2 j _ d ?_ f⟩;simp only[us,Wh,VH c,Wx];rw[dif_pos c]
     refine ⟨⟨⟨o,T,by rw[V];exact L,M,λi y j d k f=>?_⟩,by have:=a.len;dsimp only at this ⊢;omega,a.max,a.pos,λi y k=>?_⟩,P.conv V rows λi y j z l k f=>?_⟩
     ·dsimp only at k ⊢;obtain ⟨x,n⟩:=at_ k;exact (A i x y n k).2 j d f
     ·dsimp only at k ⊢;obtain ⟨x,n⟩:=at_ k;have H:=(A i x y n k).1;have:=a.sz i x n;dsimp only at this;omega
     ·obtain ⟨x,n⟩:=at_ k;obtain ⟨r,Q,k2⟩:=hcv i x y n k;exact ⟨x,n,Q.to_dp j z l f⟩
  ·exact ih (λs h=>B s (Wj _ h)) t R E
theorem call_core{m:Mem}(o:Inv F m){f:FuncId}{ds:List DV}{S:Sto}{r:DV}{H:Sto}(hc:DCall P f ds S r H){ρ:Ren}{fr av aw:List Nat}{nxt:Nat}(ax:okC ρ fr S.length=true)
  (aP:∀ s∈av,s∈fr)(aL:∀ s∈aw,s∈fr)(aN:HoldsF m sto fr)(aQ:∀ s' s ob,ρ.get s'=some s->sto.get s=some ob->QH m s ob)(hS:CvS sto ρ S aw)
  {ae:List DV}{vs:List Value}(hA:CvL sto ρ ae ds av)(hR:Reps m vs ae)(hF:Fresh m nxt (idb H S.length-S.length))(al:∀ s' s,ρ.get s'=some s->∃ e,m.σ s=some (some e))
  (Bk:Nat->Prop)(aM:∀ s∈fr,∀ e g,m.σ s=some (some e)->e.has g->¬ m.no g\/Bk g)(ay:(Sc r/\ScS H)\/∀ k,¬ Bk k) :
  Calls P f vs.toArray m.w λe w'=>∃ v,e = .returned v/\∃ m':Mem,m'.w=w'/\Inv F m'/\Loc ((Qa4 ρ S.length nxt H).map (·.1)) m m'/\Rep m' v (ren (phi ρ S.length nxt) r)/\∀ p∈Qa4 ρ S.length nxt H,Upd m' p:=by
 simp only[okC,Vh,WZ,decide_eq_true_eq,VF]at ax;obtain ⟨⟨⟨o1,o2⟩,o3⟩,o4⟩:=ax;have W:∀ {s' s},ρ.get s'=some s->s' < S.length/\s∉fr:=λ{s' s} h=>by obtain ⟨C,V⟩:=o3 _ (Ren.get_mem h);exact ⟨C,λaH=>by rw[Uh.2 aH]at V;cases V⟩
 let σ0:Nat->Option (Option Ent):=λs'=>match ρ.get s' with | some s=>m.σ s | none=>none
 have y:∀ {s' e},σ0 s'=some (some e)->∃ s,ρ.get s'=some s/\m.σ s=some (some e):=λ{s' e} h=>by
  simp only[σ0]at h;split at h
  ·rename_i s u;exact ⟨s,u,h⟩
  ·cases h
 have af:∀ {s' s},ρ.get s'=some s->σ0 s'=m.σ s:=λ{s' s} u=>by simp only[σ0,u]
 let M0:Nat->Prop:=λk=>m.no k/\¬ Xof σ0 k/\¬ Bk k;let m0:Mem:=⟨m.w,M0,σ0⟩;have X0:∀ {k},Xof σ0 k->∃ s' s e,ρ.get s'=some s/\m.σ s=some (some e)/\e.mu=true/\e.has k:=λ{k} ⟨s',e,j,b,A⟩=>by obtain ⟨s,T,K⟩:=y j;exact ⟨s',s,e,T,K,b,A⟩
 have Y0:∀ {k},Yof σ0 k->∃ s' s e,ρ.get s'=some s/\m.σ s=some (some e)/\e.has k:=λ{k} ⟨s',e,j,A⟩=>by obtain ⟨s,T,K⟩:=y j;exact ⟨s',s,e,T,K,A⟩
 have am:∀ {k},m.no k->k<m.w.heap.size:=λ{k} h=>by
  rcases h with h | ⟨s,e,j,_,A⟩
  ·exact Vp (o.lt k h).1 o.size
  ·exact (o.at_ s e k j A).1
 have az:Inv ⟨m.w,Xof σ0,Yof σ0⟩ m0:=by
  refine ⟨rfl,rfl,rfl,Wl _,λ_ _ _=>rfl,?_,?_,λk h=>⟨am h.1,h.2.1⟩,λs e g c j b=>(by obtain ⟨t,_,z⟩:=y j;exact o.wf t e g c z b),λk l he=>?_⟩
  ·intro s1 s2 e e' g j b A h4;obtain ⟨t1,w,z⟩:=y j;obtain ⟨t2,T,K⟩:=y b;have:=o.inj t1 t2 e e' g z K A h4;subst this;exact Qdq o1 (Ren.get_mem w) (Ren.get_mem T)
  ·intro s e g j b;obtain ⟨t,w,z⟩:=y j;refine ⟨(o.at_ t e g z b).1,λ⟨C,I,_⟩=>?_,λhm=>.inr ⟨s,e,j,hm,b⟩,.inr ⟨s,e,j,b⟩⟩;rcases C with q | ⟨t',e',Z,M,R⟩
   ·exact (o.at_ t e g z b).2.1 q
   ·have:=o.inj t t' e e' g z Z b R;subst this;rw[z]at Z;injection Z with Z;injection Z with Z;subst Z;exact I ⟨s,e,j,M,b⟩
  ·obtain ⟨t1,t2,t3,t4,t5⟩:=o.tab k l he;have nh:∀ {s e},m.σ s=some (some e)->¬ e.has k:=λ{s e} C I=>by
    rcases (o.at_ s e k C I).2.2.2 with q | q
    ·omega
    ·exact t3 q
   refine ⟨Vp t1 o.size,λq=>?_,λq=>?_,λq=>?_,λi x B=>?_⟩
   ·obtain ⟨_,s,e,_,C,_,I⟩:=X0 q;exact nh C I
   ·obtain ⟨_,s,e,_,C,I⟩:=Y0 q;exact nh C I
   ·rcases q.1 with q | ⟨s,e,C,_,I⟩
    ·exact t4 q
    ·exact nh C I
   ·show m.w.cell? ⟨k,i,none⟩=_;rw[QaI (o.old k t1 t2)];exact t5 i x B
 have an:∀ k,m0.no k->m.no k:=λk h=>by
  rcases h with h | ⟨s',e,j,b,A⟩
  ·exact h.1
  ·obtain ⟨s,_,K⟩:=y j;exact .inr ⟨s,e,K,b,A⟩
 have aA:EntIs m.σ m0.σ ρ:=λs' s u=>by show _/\_;rw[show m0.σ s'=m.σ s from af u];exact ⟨id,λe he=>.inr ⟨e,he,rfl,rfl⟩⟩
 have aB:∀ s∈fr,∀ e g,m.σ s=some (some e)->e.has g->¬ m0.no g:=λs U e g j b h=>by
  rcases h with ⟨C,_,V⟩ | ⟨t',e',T,K,k3⟩
  ·rcases aM s U e g j b with h | h
   ·exact h C
   ·exact V h
  ·obtain ⟨t,w,z⟩:=y T;have:=o.inj s t e e' g j z b k3;subst this;exact (W w).2 U
 have aa:∀ d d' r v,Cv sto ρ d d' r->(∀ s∈r,s∈fr)->Rep m v d->Rep m0 v d':=λd d' r v hc u hv =>
  hc.rep (m:=m) (m':=m0) rfl an aA o (λs U ob aI=>aN s (u s U) ob aI) (λs U=>aB s (u s U)) hv
 have hp0:∀ {v d},PRep m.w m.no v d->PRep m0.w m0.no v d:=λh=>PRep.ext (Wl _) (λk _ hk=>⟨rfl,λh=>hk (an k h)⟩) h;have aC:=CvS.holds (m:=m) (m':=m0) rfl hp0 aa af hS aL aQ;have aD:=CvL.reps aa hA aP hR;have ag:∀ s,S.length<=s->σ0 s=none:=λs hs=>by
  cases u:ρ.get s with
  | none=>simp only[σ0,u]
  | some t=>have:=(W u).1;omega
 refine (hc.2 m.w M0 σ0 vs az aC ag aD).mono λe w' ⟨v,σ1,he,D,aJ,aj,aK,ak⟩=>⟨v,he,?_⟩;let n:=idb H S.length-S.length;let σ2:Nat->Option (Option Ent):=λs=>if nxt<=s/\s<nxt+n then(if (H.get (S.length+(s-nxt))).isSome then σ1 (S.length+(s-nxt)) else some none) else
  match ρ.inv s with
  | some s'=>if (H.get s').isSome then σ1 s' else some none
  | none=>m.σ s
 let m1:Mem:=⟨w',M0,σ1⟩;let m2:Mem:=⟨w',m.M,σ2⟩;have a:∀ {s s'},ρ.inv s=some s'<->ρ.get s'=some s:=λ{s s'}=>by
  constructor
  ·intro h;exact QeO o2 (Ren.inv_some h)
  ·intro h;obtain ⟨t,ht⟩:=Ren.inv_in (Ren.get_mem h);rw[ht,Qdq o1 (Ren.inv_some ht) (Ren.get_mem h)]
 have Q:∀ {s' s},ρ.get s'=some s->¬ (nxt<=s/\s<nxt+n):=λ{s' s} h N=>by obtain ⟨e,he⟩:=al s' s h;rw[hF s N.1 N.2]at he;cases he
 have E:∀ {s e},σ2 s=some (some e)->(∃ s',σ1 s'=some (some e)/\(H.get s').isSome=true/\(ρ.get s'=some s\/(S.length<=s'/\s=nxt+(s' - S.length)/\nxt<=s/\s<nxt+n)))\/(m.σ s=some (some e)/\ρ.inv s=none/\¬ (nxt<=s/\s<nxt+n)):=λ{s e} h=>by
  simp only[σ2]at h;split at h
  ·rename_i N;split at h
   ·rename_i B;exact .inl ⟨_,h,B,.inr ⟨Oo,Oo,N⟩⟩
   ·cases h
  ·rename_i N;split at h
   ·rename_i s' u;split at h
    ·rename_i B;exact .inl ⟨s',h,B,.inl (a.1 u)⟩
    ·cases h
   ·rename_i u;exact .inr ⟨h,u,N⟩
 have ah:∀ {s' e g},σ1 s'=some (some e)->e.has g->g<w'.heap.size/\(m.w.heap.size<=g\/Yof σ0 g)/\(e.mu=true->m.w.heap.size<=g\/Xof σ0 g):=λ{s' e g} j b=>by obtain ⟨C,_,V,q4⟩:=D.at_ s' e g j b;exact ⟨C,q4,V⟩
 have ai:m.w.heap.size<=w'.heap.size:=D.size;have ao:∀ {k},k<F.w0.heap.size->¬ F.X k->¬ Xof σ0 k:=λ{k} hk hX h=>by
  obtain ⟨s',s,e,C,I,V,q4⟩:=X0 h;rcases (o.at_ s e k I q4).2.2.1 V with h | h
  ·omega
  ·exact hX h
 have X:∀ {s' e g s t},σ1 s'=some (some e)->e.has g->m.σ s=some (some t)->ρ.inv s=none->t.has g->False:=λ{s' e g s t} j b A h4 h5=>by
  rcases (ah j b).2.1 with h | h
  ·have:=(o.at_ s t g A h5).1;omega
  ·obtain ⟨t',t2,L,C,I,V⟩:=Y0 h;have:=o.inj s t2 t L g A I h5 V;subst this;rw[a.2 C]at h4;cases h4
 have aE:Inv F m2:=by
  refine ⟨D.os.trans o.os,D.tape.trans o.tape,D.output.trans o.output,Ub o.size ai,λk hk hX=>?_,?_,?_,o.lt,λs e g c j b=>by
   rcases E j with ⟨t,w,_⟩ | ⟨w,_⟩
   ·exact D.wf t e g c w b
   ·exact o.wf s e g c w b,o.tab⟩
  ·rw[<- o.old k hk hX];exact D.old k (Vp hk o.size) (ao hk hX)
  ·intro s1 s2 e e' g j b A h4;rcases E j with ⟨t1,w,jx,z⟩ | ⟨w,z,j3⟩ <;> rcases E b with ⟨t2,T,kx,K⟩ | ⟨T,K,k3⟩
   ·have:=D.inj t1 t2 e e' g w T A h4;subst this;rcases z with z | ⟨z,j3,j4,j5⟩ <;> rcases K with K | ⟨K,k3,k4,k5⟩
    ·rw[z]at K;injection K
    ·have:=(W z).1;omega
    ·have:=(W K).1;omega
    ·omega
   ·exact (X w A T K h4).elim
   ·exact (X T h4 w z A).elim
   ·exact o.inj s1 s2 e e' g w T A h4
  ·intro s e g j b;rcases E j with ⟨t,w,jx,z⟩ | ⟨w,z,j3⟩
   ·obtain ⟨C,I,V⟩:=ah w b;refine ⟨C,λhM=>?_,λhm=>?_,?_⟩
    ·have aF:=Vp (o.lt g hM).1 o.size;rcases I with q | q
     ·omega
     ·obtain ⟨_,O,L,_,M,R⟩:=Y0 q;exact (o.at_ O L g M R).2.1 hM
    ·rcases V hm with q | q
     ·exact .inl (Ub o.size q)
     ·obtain ⟨_,O,L,_,M,R,Y⟩:=X0 q;exact (o.at_ O L g M Y).2.2.1 R
    ·rcases I with q | q
     ·exact .inl (Ub o.size q)
     ·obtain ⟨_,O,L,_,M,R⟩:=Y0 q;exact (o.at_ O L g M R).2.2.2
   ·obtain ⟨C,I⟩:=o.at_ s e g w b;exact ⟨Vp C ai,I⟩
 have ap:∀ {s' s},ρ.get s'=some s->s∈(Qa4 ρ S.length nxt H).map (·.1):=λ{s' s} h=>by unfold Qa4;rw[WP,Wk,Va];exact .inl (Wm.2 ⟨(s',s),Ren.get_mem h,rfl⟩)
 have aq:∀ {s},nxt<=s->s<nxt+n->s∈(Qa4 ρ S.length nxt H).map (·.1):=λ{s} j b=>by unfold Qa4;rw[WP,Wk];refine .inr ?_;rw[Va];exact Wm.2 ⟨s-nxt,WE.2 (by simp only[n]at b;omega),by show nxt+(s-nxt)=s;omega⟩
 have aG:Loc ((Qa4 ρ S.length nxt H).map (·.1)) m m2:=by
  refine ⟨⟨ai,rfl,λk hk N=>⟨?_,λh=>?_⟩,λs x B=>?_⟩,λs hs=>?_,λk hk h=>?_⟩
  ·refine D.old k hk λh=>N ?_;obtain ⟨_,O,L,_,M,R,Y⟩:=X0 h;exact .inr ⟨O,L,M,R,Y⟩
  ·rcases h with h | ⟨s,e,j,b,A⟩
   ·exact N (.inl h)
   ·rcases E j with ⟨t,w,jx,z⟩ | ⟨w,z,j3⟩
    ·rcases (ah w A).2.2 b with q | q
     ·omega
     ·obtain ⟨_,O,L,_,M,R,Y⟩:=X0 q;exact N (.inr ⟨O,L,M,R,Y⟩)
    ·exact N (.inr ⟨s,e,w,b,A⟩)
  ·show ∃ x',σ2 s=some x'/\_;simp only[σ2];rw[if_neg (λN=>by rw[hF s N.1 N.2]at B;cases B)];split
   ·rename_i s' u;split
    ·have:=af (a.1 u);exact aJ s' x (by rw[this];exact B)
    ·exact ⟨none,rfl,λe h=>by cases h⟩
   ·exact ⟨x,B,λe h=>⟨e,h,rfl,rfl⟩⟩
  ·show σ2 s=m.σ s;simp only[σ2];rw[if_neg λN=>hs (aq N.1 N.2)];split
   ·rename_i s' u;exact absurd (ap (a.1 u)) hs
   ·rfl
  ·refine D.old k hk λhX=>?_;obtain ⟨s',O,L,Z,M,R,Y⟩:=X0 hX;exact h O L M Y (ap Z)
 have ab:∀ s x,m1.σ s=some x->m2.σ (phi ρ S.length nxt s)=some x\/m2.σ (phi ρ S.length nxt s)=some none:=λs x B=>by
  have aF:s<idb H S.length:=by
   rcases Ws s (idb H S.length) with h | h
   ·exact h
   ·rw[show m1.σ s=none from ak s h]at B;cases B
  show σ2 _=_\/σ2 _=_;unfold phi;cases u:ρ.get s with
  | some t =>
   simp only[σ2];rw[if_neg (Q u),a.2 u];dsimp only;split
   ·exact .inl B
   ·exact .inr rfl
  | none =>
   have aR:S.length<=s:=by
    rcases Ws s S.length with h | h
    ·have:=o4 s (WE.2 h);rw[u]at this;cases this
    ·exact h
   simp only[σ2];rw[if_pos (by simp only[n];omega),show S.length+(nxt+(s-S.length)-nxt)=s by omega];split
   ·exact .inl B
   ·exact .inr rfl
 have ac:(∀ k,¬ Bk k)->∀ k,m2.no k->m1.no k:=λhB k h=>by
  rcases h with h | ⟨s,e,j,b,A⟩
  ·refine .inl ⟨.inl h,λhX=>?_,hB k⟩;obtain ⟨_,O,L,_,M,R,Y⟩:=X0 hX;exact (o.at_ O L k M Y).2.1 h
  ·rcases E j with ⟨t,w,jx,z⟩ | ⟨w,z,j3⟩
   ·exact .inr ⟨t,e,w,b,A⟩
   ·refine .inl ⟨.inr ⟨s,e,w,b,A⟩,λhX=>?_,hB k⟩;obtain ⟨s',O,L,Z,M,R,Y⟩:=X0 hX;have:=o.inj s O e L k w M A Y;subst this;rw[a.2 Z]at z;cases z
 refine ⟨m2,rfl,aE,aG,ren_rep (m1:=m1) ab aj (ay.imp (·.1) λh=>⟨rfl,ac h⟩),λp hp=>?_⟩;have ad:∀ s' ob,H.get s'=some ob->m2.σ (phi ρ S.length nxt s')=m1.σ s'->QH m2 (phi ρ S.length nxt s') (renO (phi ρ S.length nxt) ob):=λs' ob j b =>
  ren_holds (m1:=m1) ab (aK s' ob j) b rfl (ay.imp (λh=>h.2 s' ob j) λh=>ac h)
 unfold Qa4 at hp;rcases Wk.1 hp with hp | hp
 ·obtain ⟨⟨s',s⟩,hq,rfl⟩:=Wm.1 hp;have u:=QeO o2 hq;have J:phi ρ S.length nxt s'=s:=by unfold phi;rw[u]
  have G:σ2 s=if (H.get s').isSome then σ1 s' else some none:=by simp only[σ2];rw[if_neg (Q u),a.2 u]
  unfold Upd;dsimp only;cases B:H.get s' with
  | none=>rw[B]at G;exact G
  | some ob =>rw[B]at G;have:=ad s' ob B (by rw[J];exact G);rw[J]at this;exact this
 ·obtain ⟨i,hi,rfl⟩:=Wm.1 hp;have aS:i<n:=WE.1 hi;have u:ρ.get (S.length+i)=none:=by
   cases u:ρ.get (S.length+i) with
   | none=>rfl
   | some t=>have:=(W u).1;omega
  have J:phi ρ S.length nxt (S.length+i)=nxt+i:=by unfold phi;rw[u];dsimp only;omega
  have G:σ2 (nxt+i)=if (H.get (S.length+i)).isSome then σ1 (S.length+i) else some none:=by simp only[σ2];rw[if_pos Oo,show nxt+i-nxt=i by omega]
  unfold Upd;dsimp only;cases B:H.get (S.length+i) with
  | none=>rw[B]at G;exact G
  | some ob =>rw[B]at G;have:=ad _ ob B (by rw[J];exact G);rw[J]at this;exact this
end
section
variable{P:Program}{env:Env}{sto:Sto}{nxt:Nat}{o:Oper}
inductive QbU(env:Env):Operand->Nat->List DV->Prop
 | func {f:Nat}:QbU env (.func f) f []
 | tmp {t f:Nat}:env.get t = .lit (.func (.func f) #[] #[])->QbU env (.tmp t) f []
 | clo {t f:Nat} {cap:List DV}:env.get t = .fn f cap->QbU env (.tmp t) f cap
theorem exec_call{m:Mem}{a:Act}{c:Operand}{l:List Operand}{C:Array TypeId}{f:Nat}{cap:List DV}(q:o.op = .call ⟨.value c,l.toArray,C⟩)(s:OpsRep m a env o)(D:QbU env c f cap)(r:∀ args w,(callFunc f args).run P w = .ok (.enter f args) w) :
  ∃ vs:List Value,(execOp a.eval o).run P m.w = .ok (.enter f vs.toArray) m.w/\Reps m vs (l.map (opd env)++cap):=by
 have e:Reps m (l.map a.eval) (l.map (opd env)):=⟨Os,evals_rep λx B=>s x (by simp[q,Op.operands,Call.operands,B])⟩;have g:∀ {n:List Value} {cap:List DV},Reps m n cap->Reps m (l.map a.eval++n) (l.map (opd env)++cap):=λ{n cap} h=>by
  refine ⟨by simp[h.1],λi v d b p=>?_⟩;by_cases A:i<l.length
  ·rw[WF (by simpa using A)]at b p;exact e.2 i v d b p
  ·rw[WC (by simp;omega)]at b p;simp only[Wb]at b p;exact h.2 _ v d b p
 have j:=s c (by simp[q,Op.operands,Call.operands]);cases D with
 | func =>refine ⟨l.map a.eval++[],?_,g ⟨rfl,λi v d b=>by simp at b⟩⟩;simp[execOp,q,resolve,Act.eval,Deferred.ofValue,invoke,r]
 | @tmp t _ h =>
  have:a.eval (.tmp t) = .func (.func f) #[] #[]:=by have k:=j;rw[show opd env (.tmp t)=_ from h]at k;exact k.lit_inv
  refine ⟨l.map a.eval++[],?_,g ⟨rfl,λi v d b=>by simp at b⟩⟩;simp[execOp,q,resolve,this,Deferred.ofValue,invoke,r]
 | @clo t _ cap h =>have k:=j;rw[show opd env (.tmp t)=_ from h]at k;obtain ⟨n,u,y,z⟩:=k.fn_inv;refine ⟨l.map a.eval++n,?_,g ⟨y,z⟩⟩;simp[execOp,q,resolve,u,Deferred.ofValue,invoke,r]
def outOf(ρ:Ren)(n0 nxt:Nat)(r:DV)(a:Sto)(us:List (Nat×Option Ob))(fr:List Nat):Out := ⟨ren (phi ρ n0 nxt) r,Qa4 ρ n0 nxt a++us,ρ.map (·.2)++fr,idb a n0-n0⟩
def QgF(sto:Sto)(ρ:Ren):Bool:=ρ.all λp=>(sto.get p.2).isSome
theorem known_live{m:Mem}{ρ:Ren}(d:QgF sto ρ=true)(f:QZ m sto (ρ.map (·.2))):∀ s' s,ρ.get s'=some s->∃ e,m.σ s=some (some e):=λs' s h=>by have:=WZ.1 d _ (Ren.get_mem h);obtain ⟨b,a⟩:=VQ.1 this;obtain ⟨e,c,_⟩:=f s (Wm.2 ⟨_,Ren.get_mem h,rfl⟩) b a;exact ⟨e,c⟩
theorem r_callF{c:Operand}{G:Array Operand}{l:List Operand}{ty:Array TypeId}{f:Nat}{cap ds:List DV}{S:Sto}{r:DV}{O:Sto}{ρ:Ren}{b j:List Nat}(ho:o.op = .call ⟨.value c,G,ty⟩)(hl:G=l.toArray)(aj:QbU env c f cap)(hc:DCall P f ds S r O)
  (hA:CvL sto ρ (l.map (opd env)++cap) ds b)(hS:CvS sto ρ S j)(A:okC ρ (b++j) S.length=true)(ai:QgF sto ρ=true) :
  Qv P o env sto nxt (outOf ρ S.length nxt r O (QdP sto (b++j)) (b++j)):=λF m a hI hE hH hF K Q hK=>by
 subst hl
 obtain ⟨vs,E,W⟩:=exec_call (P:=P) ho hE aj hc.1
 have T:QZ m sto (ρ.map (·.2)):=λs n=>hH s (Wg _ n)
 have H:QZ m sto (b++j):=λs n=>hH s (Wj _ n)
 obtain ⟨I,X⟩:=Qeh hI (b++j)
 have D:∀ M s,ρ.get M=some s->s∉b++j:=λM s h ae=>by simp only[okC,Vh,WZ,VF]at A;have:=(A.1.2 _ (Ren.get_mem h)).2;rw[Uh.2 ae]at this;cases this
 have aa:∀ s∈b++j,∀ e g,(frz m (b++j)).σ s=some (some e)->e.has g->¬ (frz m (b++j)).no g:=λs n e g E W=>by refine not_no_has I E W ?_;obtain ⟨e0,Y,_⟩:=Qcs E;rw[frz_in n Y]at E;simp only[Wx,Wz]at E;rw[<- E]
 have U:=call_core (m:=frz m (b++j)) (nxt:=nxt) I hc A (λs n=>Wg _ n) (λs n=>Wj _ n)
  (λs n J t=>⟨true,QgN hI n (H s n J t)⟩) (λM s J Z t=>frz_keeps hI (T s (Wm.2 ⟨_,Ren.get_mem Z,rfl⟩) J t) (D M s Z)) hS hA
  (show Reps (frz m (b++j)) vs _ from ⟨W.1,λi v d hv hd=>(W.2 i v d hv hd).ext X.toExt⟩)
  (λs Y q2=>by
   have:=hF s Y q2
   show (if s∈b++j then _ else _)=_
   split
   ·rw[this];rfl
   ·exact this)
  (λM s Z=>by
   obtain ⟨e,B⟩:=known_live ai T M s Z
   refine ⟨e,?_⟩
   show (if s∈b++j then _ else _)=_
   rw[if_neg (D M s Z)];exact B)
  (λ_=>False) (λs n e g Y q2=>.inl (aa s n e g Y q2)) (.inr λk h=>h)
 unfold Oper.wp
 rw[E]
 refine Calls.mono U λe w' ⟨v,B,m',hw,af,N,ag,ah⟩=>?_
 subst B
 subst hw
 show K (a.put o.dst v) m'.w
 have hL:=Loc.trans X N λs e g B hb hg n=>by obtain ⟨e0,k1,k2,k3,_,k5⟩:=Qcs B;exact ⟨s,e0,k1,Ent.has_eq k3 k5 hb,n⟩
 have C:∀ s∈b++j,(sto.get s).isSome=true->s∈(QdP sto (b++j)).map (·.1):=λs n hx=>by
  generalize b++j=L at n;induction L with
  | nil=>cases n
  | cons x L ih =>
   unfold QdP;rcases Wu.1 n with rfl | h
   ·obtain ⟨J,t⟩:=VQ.1 hx;rw[t];simp
   ·split
    ·exact Wp _ (ih h)
    ·exact ih h
 have w:∀ {xs ys:List DV} {r:List Nat},CvL sto ρ xs ys r->∀ s∈r,(sto.get s).isSome=true:=λh=>h.known
 have u:∀ {S:Sto} {r:List Nat},CvS sto ρ S r->∀ s∈r,(sto.get s).isSome=true:=by
  intro S r h;induction h with
  | nil=>intro s n;cases n
  | cons E W h3 _ ih =>
   intro s n;rcases Wk.1 n with h | h
   ·cases h3 with
    | arr=>cases h
    | rows _ _ hk=>exact hk s h
   ·exact ih s h
 have y:∀ s∈b++j,s∈(QdP sto (b++j)).map (·.1):=λs n=>C s n (by
  rcases Wk.1 n with h | h
  ·exact w hA s h
  ·exact u hS s h)
 refine hK v m' af ⟨hL.toExt,λs n=>hL.same s λh=>n ?_,λk hk hn=>hL.blk k hk λs e B hb h=>hn s e B hb ?_⟩ ag λp hp=>?_
 ·show s∈(Qa4 ρ S.length nxt O++QdP sto (b++j)).map (·.1)
  rw[WP,Wk]
  rcases Wk.1 h with h | h
  ·exact .inr (y s h)
  ·exact .inl h
 ·show s∈(Qa4 ρ S.length nxt O++QdP sto (b++j)).map (·.1)
  rw[WP,Wk]
  rcases Wk.1 h with h | h
  ·exact .inr (y s h)
  ·exact .inl h
 ·rcases Wk.1 (show p∈Qa4 ρ S.length nxt O++QdP sto (b++j) from hp) with hp | hp
  ·exact ah p hp
  ·have R:=frzU_upd hI (λ_ h=>h) H p hp
   have z:p.1∈b++j:=by
    have ab:∀ L:List Nat,p∈QdP sto L->p.1∈L:=by
     intro L;induction L with
     | nil=>intro h;cases h
     | cons x L ih =>
      intro h;unfold QdP at h;split at h
      ·rcases Wu.1 h with rfl | h
       ·simp
       ·exact Wp _ (ih h)
      ·exact Wp _ (ih h)
    exact ab _ hp
   have V:p.1∉(Qa4 ρ S.length nxt O).map (·.1):=λh=>by
    unfold Qa4 at h;rw[WP,Wk,Va,Va]at h;rcases h with h | h
    ·obtain ⟨q,hq,ac⟩:=Wm.1 h;simp only[okC,Vh,WZ,VF]at A;have:=(A.1.2 _ hq).2;rw[Uh.2 (show q.2∈b++j from (show p.1=q.2 from ac.symm)▸z)]at this;cases this
    ·obtain ⟨i,hi,ad⟩:=Wm.1 h;have h0:=hF (nxt+i) Oo (by show nxt+i<nxt+(idb O S.length-S.length);have:=WE.1 hi;omega);have hx:(sto.get p.1).isSome=true:=by
      rcases Wk.1 z with h | h
      ·exact w hA _ h
      ·exact u hS _ h
     obtain ⟨J,t⟩:=VQ.1 hx;obtain ⟨e,B,_⟩:=H p.1 z J t;rw[show p.1=nxt+i from ad.symm,h0]at B;cases B
   unfold Upd at R ⊢
   cases hq:p.2 with
   | some J=>rw[hq]at R;exact QH.loc I N V R
   | none=>rw[hq]at R;dsimp only at R ⊢;rw[N.same p.1 V];exact R
theorem r_callB{c:Operand}{i:Array Operand}{l:List Operand}{ty:Array TypeId}{f:Nat}{cap ds:List DV}{S:Sto}{r:DV}{q:Sto}{ρ:Ren}{b d:List Nat}(Z:o.op = .call ⟨.value c,i,ty⟩)(hl:i=l.toArray)(E:QbU env c f cap)(H:DCall P f ds S r q)
  (u:Sc r)(B:ScS q)(hA:CvL sto ρ (l.map (opd env)++cap) ds b)(hS:CvS sto ρ S d)(D:okC ρ (b++d) S.length=true)(C:QgF sto ρ=true) :
  Qv P o env sto nxt (outOf ρ S.length nxt r q [] (b++d)):=λF m a L M G N K Q O=>by
 subst hl
 obtain ⟨vs,I,J⟩:=exec_call (P:=P) Z M E H.1
 have j:QZ m sto (ρ.map (·.2)):=λs h=>G s (Wg _ h)
 have t:QZ m sto (b++d):=λs h=>G s (Wj _ h)
 have n:=call_core (nxt:=nxt) L H D (λs h=>Wg _ h) (λs h=>Wj _ h) t.f
  (λs' s R u w=>j s (Wm.2 ⟨_,Ren.get_mem u,rfl⟩) R w) hS hA J N (known_live C j)
  (λk=>∃ s∈b++d,∃ e,m.σ s=some (some e)/\e.has k) (λs h e g T U=>.inr ⟨s,h,e,T,U⟩) (.inl ⟨u,B⟩)
 unfold Oper.wp
 rw[I]
 refine Calls.mono n λe w' ⟨v,V,W,X,x,y,z,A⟩=>?_
 subst V
 subst X
 refine O v W x ?_ z λp Y=>A p ?_
 ·simpa only[outOf,W6] using y
 ·have:p∈Qa4 ρ S.length nxt q++[]:=Y
  rwa [W6]at this
end
end Go.Proofs.YthadnbdbfpggdaaGreatDoor
