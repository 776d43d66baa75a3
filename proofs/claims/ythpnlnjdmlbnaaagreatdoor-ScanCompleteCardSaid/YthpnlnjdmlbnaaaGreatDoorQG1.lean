/- Parts of the proof. No condition. -/
import Derived.Test.YthpnlnjdmlbnaaaGreatDoorQB0
import Derived.Test.YthpnlnjdmlbnaaaGreatDoorQB1
import Derived.Test.YthpnlnjdmlbnaaaGreatDoorQB2
import Derived.Test.YthpnlnjdmlbnaaaGreatDoorQB3
import Derived.Test.YthpnlnjdmlbnaaaGreatDoorQB4
import Derived.Test.YthpnlnjdmlbnaaaGreatDoorQB5
import Derived.Test.YthpnlnjdmlbnaaaGreatDoorQB6
import Derived.Test.YthpnlnjdmlbnaaaGreatDoorQB7
import Derived.Test.YthpnlnjdmlbnaaaGreatDoorQB8
import Derived.Test.YthpnlnjdmlbnaaaGreatDoorQB9
import Derived.Test.YthpnlnjdmlbnaaaGreatDoorQB10
import Derived.Test.YthpnlnjdmlbnaaaGreatDoorQB11
import Derived.Test.YthpnlnjdmlbnaaaGreatDoorQB12
import Derived.IntWalk
import Derived.KernelRfl
import Derived.Laws.CopyRow
import Derived.Laws.AppendOwn
import Derived.Laws.OwnMore
import Derived.Laws.MakeOwn
import Derived.Great.BuildSlice
import Derived.WalkKit
import Derived.WalkSpells
import Derived.WalkLawsBesides
import Derived.Lib.Hide
import Derived.Orders
import Derived.RegionTactic
import Derived.Deep.RegionHeld
import Derived.Test.YthpnlnjdmlbnaaaGreatDoorRows
import Derived.Maps.AppendAt
import Derived.Deep.QuietTactic
import Derived.BigQuiet
import Derived.Shelf.Spec.SlicesInsertGrow
import Derived.Laws.StructEq
import Derived.Shelf.Sort.Plain
import Derived.Shelf.Slices.In.SortNone
import Derived.Shelf.Slices.Cells
import Derived.Test.YthpnlnjdmlbnaaaGreatDoorChecked
import Derived.Laws.Externs
namespace Go.Proofs.YthpnlnjdmlbnaaaGreatDoor
open Go.RowKit
set_option linter.unusedSimpArgs false
set_option linter.unusedVariables false
theorem bP_congr{p q:Prop}(h:p<->q):bP p=bP q:=by rw [propext h]
open Go.RowKit Go.Shelf
theorem cell_block{w:World}{g o:Nat}{cs:Array Value}{T:TypeId}(h:w.heap[g]?=some (.cells cs T (0,0))):w.cell? ⟨g,o,none⟩=cs[o]?:=cell_of_row w g o cs T (0,0) h
theorem Qfg{w:World}{g o:Nat}{cs:Array Value}{T:TypeId}(h:w.heap[g]?=some (.cells cs T (0,0))):w.frozen? ⟨g,o,none⟩=false:=by
 unfold World.frozen?
 rw [show w.heap[(⟨g,o,none⟩:Addr).block]?=some (.cells cs T (0,0)) from h]
 simp
theorem setCell_block{w:World}{g o:Nat}{cs:Array Value}{T:TypeId}(h:w.heap[g]?=some (.cells cs T (0,0)))(v:Value):(w.setCell ⟨g,o,none⟩ v).heap[g]?=some (.cells (cs.setIfInBounds o v) T (0,0)):=by
 unfold World.setCell
 simp only [Array.getElem?_modify,if_true,h,Wu]
 rfl
theorem grown_refl(w:World)(row:Option Nat):w.grownBy w row:=⟨rfl,rfl,rfl,Wo _,λ_ _ _=>rfl⟩
theorem grown_trans{a b c:World}{row:Option Nat}(h:a.grownBy b row)(k:b.grownBy c row):a.grownBy c row :=
 ⟨k.os.trans h.os,k.tape.trans h.tape,k.output.trans h.output,Ur h.size k.size,λi hi hn=>(k.block i (Vz hi h.size) hn).trans (h.block i hi hn)⟩
theorem grown_setCell'(w:World)(a:Addr)(u:Value):w.grownBy (w.setCell a u) (some a.block) :=
 ⟨rfl,rfl,rfl,by simp [World.setCell],λk _ hk=>by
  unfold World.setCell
  rw [Array.getElem?_modify]
  rw [if_neg (λe=>hk (by rw [e]))]⟩
theorem Qe6(g:Nat):∀ (vs:List Value) (o:Nat) (w:World),w.grownBy (w.setCells g o vs) (some g)
 | [],_,w=>grown_refl w _
 | v :: r,o,w=>grown_trans (grown_setCell' w ⟨g,o,none⟩ v) (Qe6 g r (o+1) _)
theorem Qfa{g T:Nat}:∀ (vs:List Value) (o:Nat) (w:World) (cur:Array Value),w.heap[g]?=some (.cells cur T (0,0))->o+vs.length<=cur.size ->
  ∃ cur',(w.setCells g o vs).heap[g]?=some (.cells cur' T (0,0))/\cur'.toList=cur.toList.take o++vs++cur.toList.drop (o+vs.length)
 | [],o,w,cur,h,_=>⟨cur,h,Os⟩
 | v :: r,o,w,cur,h,hl=>by
  obtain ⟨cur',h1,h2⟩:=Qfa r (o+1) (w.setCell ⟨g,o,none⟩ v) (cur.setIfInBounds o v) (setCell_block h v) (by simp at hl ⊢;omega)
  refine ⟨cur',h1,?_⟩
  rw [h2,Array.toList_setIfInBounds]
  exact list_seg_step cur.toList o v r (by simp at hl ⊢;omega)
def srtRen:Go.Shelf.Ren:=⟨λ| 189=>95 | 125=>152 | 257=>151 | 128=>191 | 129=>192 | 294=>183 | 295=>184 | 296=>185 | 297=>186 | 298=>187 | 299=>188 | 216=>159 | 300=>189 | 301=>190 | 328=>213 | 329=>214 | 330=>215 | 331=>216 | 332=>217 | 215=>196 | 343=>227 | n=>n,λ| 28=>22 | 3=>3 | 46=>105 | 0=>0 | 51=>256 | 53=>62 | 4=>4 | 183=>250 | 182=>249 | 131=>177 | 5=>5 | 9=>9 | 218=>271 | 222=>275 | 228=>281 | 229=>140 | n=>n,λn=>n⟩
theorem srtLay:Lays.n189 Tryz.prog srtRen:={
 mixed:=by kernel_rfl
 f125:=Tryz.func152.trans (congrArg some Ok)
 f128:=Tryz.func191.trans (congrArg some Ok)
 f129:=Tryz.func192.trans (congrArg some Ok)
 f189:=Tryz.func95.trans (congrArg some Ok)
 f215:=Tryz.func196.trans (congrArg some Ok)
 f216:=Tryz.func159.trans (congrArg some Ok)
 f257:=Tryz.func151.trans (congrArg some Ok)
 f294:=Tryz.func183.trans (congrArg some Ok)
 f295:=Tryz.func184.trans (congrArg some Ok)
 f296:=Tryz.func185.trans (congrArg some Ok)
 f297:=Tryz.func186.trans (congrArg some Ok)
 f298:=Tryz.func187.trans (congrArg some Ok)
 f299:=Tryz.func188.trans (congrArg some Ok)
 f300:=Tryz.func189.trans (congrArg some Ok)
 f301:=Tryz.func190.trans (congrArg some Ok)
 f328:=Tryz.func213.trans (congrArg some Ok)
 f329:=Tryz.func214.trans (congrArg some Ok)
 f330:=Tryz.func215.trans (congrArg some Ok)
 f331:=Tryz.func216.trans (congrArg some Ok)
 f332:=Tryz.func217.trans (congrArg some Ok)
 f343:=Tryz.func227.trans (congrArg some Ok)
 t0:=Tryz.underlying0
 a0:=Tryz.isAgg0
 z0:=Tryz.sizeOf0
 v0:=Tryz.zeroValue0
 t3:=Tryz.underlying3
 a3:=Tryz.isAgg3
 z3:=Tryz.sizeOf3
 v3:=Tryz.zeroValue3
 t4:=Tryz.underlying4
 a4:=Tryz.isAgg4
 z4:=Tryz.sizeOf4
 v4:=Tryz.zeroValue4
 t5:=Tryz.underlying5
 a5:=Tryz.isAgg5
 z5:=Tryz.sizeOf5
 v5:=Tryz.zeroValue5
 t9:=Tryz.underlying9
 a9:=Tryz.isAgg9
 z9:=Tryz.sizeOf9
 v9:=Tryz.zeroValue9
 t28:=Tryz.underlying22
 a28:=Tryz.isAgg22
 z28:=Tryz.sizeOf22
 v28:=Tryz.zeroValue22
 t46:=Tryz.underlying105
 a46:=Tryz.isAgg105
 z46:=Tryz.sizeOf105
 v46:=Tryz.zeroValue105
 t51:=Tryz.underlying256
 a51:=Tryz.isAgg256
 z51:=Tryz.sizeOf256
 v51:=Tryz.zeroValue256
 t53:=Tryz.underlying62
 a53:=Tryz.isAgg62
 z53:=Tryz.sizeOf62
 v53:=Tryz.zeroValue62
 t131:=Tryz.underlying177
 a131:=Tryz.isAgg177
 z131:=Tryz.sizeOf177
 v131:=Tryz.zeroValue177
 t182:=Tryz.underlying249
 a182:=Tryz.isAgg249
 z182:=Tryz.sizeOf249
 v182:=Tryz.zeroValue249
 t183:=Tryz.underlying250
 a183:=Tryz.isAgg250
 z183:=Tryz.sizeOf250
 v183:=Tryz.zeroValue250
 t218:=Tryz.underlying271
 a218:=Tryz.isAgg271
 z218:=Tryz.sizeOf271
 v218:=Tryz.zeroValue271
 t222:=Tryz.underlying275
 a222:=Tryz.isAgg275
 z222:=Tryz.sizeOf275
 v222:=Tryz.zeroValue275
 t228:=Tryz.underlying281
 a228:=Tryz.isAgg281
 z228:=Tryz.sizeOf281
 v228:=Tryz.zeroValue281
 t229:=Tryz.underlying140
 a229:=Tryz.isAgg140
 z229:=Tryz.sizeOf140
 v229:=Tryz.zeroValue140 }
def cptRen:Go.Shelf.Ren:=⟨λ| 20=>96 | n=>n,λ| 22=>22 | 3=>3 | 4=>4 | 0=>0 | n=>n,λn=>n⟩
theorem cptLay:Lays2.n20 Tryz.prog cptRen:={
 mixed:=by kernel_rfl
 f20:=Tryz.func96.trans (congrArg some Ok)
 t0:=Tryz.underlying0
 a0:=Tryz.isAgg0
 z0:=Tryz.sizeOf0
 v0:=Tryz.zeroValue0
 t3:=Tryz.underlying3
 a3:=Tryz.isAgg3
 z3:=Tryz.sizeOf3
 v3:=Tryz.zeroValue3
 t4:=Tryz.underlying4
 a4:=Tryz.isAgg4
 z4:=Tryz.sizeOf4
 v4:=Tryz.zeroValue4
 t22:=Tryz.underlying22
 a22:=Tryz.isAgg22
 z22:=Tryz.sizeOf22
 v22:=Tryz.zeroValue22
 i3:=by kernel_rfl }
theorem entR(σ:Nat->Option (Option Ent)):QcK σ σ:=λs x h=>⟨x,h,λe' he=>⟨e',he,rfl,rfl⟩⟩
theorem int_row{m:Mem}{g cap:Nat}{f:Bool}{l:List Int}(r:Row m ⟨1,true,f,l.map iC⟩ g cap):∃ cur T,m.w.heap[g]?=some (.cells cur T (0,0))/\cur.size=cap/\l.length<=cap/\∀ j (h:j < l.length),cur[j]?=some (.int .i64 l[j]):=by
 obtain ⟨cur,T,c1,c2,c3⟩:=r.cells
 refine ⟨cur,T,c1,by simpa using c2,by simpa using r.len,λj hj=>?_⟩
 obtain ⟨u,h1,_,h2⟩:=c3 j (iC l[j]) 0 (DI l[j]) (by rw [Wg,Wa hj];rfl) rfl
 have h2:PRep m.w m.no u (.lit (.int .i64 l[j])):=h2
 cases h2
 simpa using h1
theorem Qfe{w':World}{M:Nat->Prop}{σ:Nat->Option (Option Ent)}{g cap T:Nat}{ys:List Int}{cur:Array Value}(h:w'.heap[g]?=some (.cells cur T (0,0)))(hs:cur.size=cap)(hl:ys.length<=cap)(hm:cap<=maxLen)(hc:∀ j (h:j < ys.length),cur[j]?=some (.int .i64 ys[j])) :
  Row ⟨w',M,σ⟩ ⟨1,true,false,ys.map iC⟩ g cap:=by
 refine ⟨⟨cur,T,h,by simpa using hs,λi x j d hx hd=>?_⟩,by simpa using hl,hm,Nat.one_pos,λi x hx=>?_⟩
 ·have hx:(ys.map iC)[i]?=some x:=hx
  have hi:i < ys.length:=by
   rcases Wq i ys.length with h' | h'
   ·exact h'
   ·rw [Wf (by simpa using h')] at hx;cases hx
  rw [Wg,Wa hi] at hx
  injection hx with hx
  subst hx
  cases j with
  | succ j=>cases hd
  | zero =>
   injection hd with hd
   subst hd
   exact ⟨_,by simpa using hc i hi,rfl,.lit _ rfl⟩
 ·obtain ⟨a,_,rfl⟩:=Wj.1 (Wp hx)
  rfl
noncomputable def Qfb(l:List Int):List Int:=l.mergeSort λx y=>decide (x<=y)
theorem srtL_len(l:List Int):(Qfb l).length=l.length:=by unfold Qfb;simp
theorem enter_ok {f:Nat} {fn:Func} {cd:Code} (hf:Tryz.prog.funcs[f]?=some fn) (hname:(fn.name == "runtime.NumGoroutine")=false) (hb:fn.body=some cd):∀ args w,(callFunc f args).run Tryz.prog w = .ok (.enter f args) w:=λargs w=>by
 have hn:¬ fn.name= "runtime.NumGoroutine":=by simpa using hname
 simp [callFunc,hf,hn,hb]
theorem own_intv{w:World}{M:Nat->Prop}{σ:Nat->Option (Option Ent)}{a0:Value}{l:List Int}(r0:Rep ⟨w,M,σ⟩ a0 (.own 0 0 l.length))(H0:QC ⟨w,M,σ⟩ 0 ⟨1,true,false,l.map iC⟩) :
  ∃ en,σ 0=some (some en)/\en.esz=1/\en.mu=true/\((∃ g cap,en.blk=some (g,cap)/\a0 = .slice (some ⟨g,0,none⟩) l.length cap/\l.length<=cap/\cap<=maxLen/\∃ cur T,w.heap[g]?=some (.cells cur T (0,0))/\cur.size=cap/\∀ j (h:j < l.length),cur[j]?=some (.int .i64 l[j]))\/(l=[]/\en.blk=none/\a0 = .slice none 0 0)):=by
 obtain ⟨en,k1,k2,k3,k4⟩:=Ji r0 H0
 refine ⟨en,k1,k2,by rw [k3];rfl,?_⟩
 rcases k4 with ⟨g,cap,k4,hsv,k5,k6⟩ | ⟨k4,hsv,_,h,he,_⟩
 ·obtain ⟨cur,T,c1,c2,c3,c4⟩:=int_row k6
  rw [UX,UW] at hsv
  exact .inl ⟨g,cap,k4,hsv,c3,k6.max,cur,T,c1,c2,c4⟩
 ·exact .inr ⟨VK.1 h,k4,hsv⟩
set_option maxHeartbeats 1000000 in
theorem sort_dcall{l:List Int}(hl:l.length<=1099511627776):DCall Tryz.prog 95 [.own 0 0 l.length] [(0,⟨1,true,false,l.map iC⟩)] (.tup []) [(0,⟨1,true,false,(Qfb l).map iC⟩)]:=by
 refine ⟨enter_ok Tryz.func95 rfl rfl,λw M σ vs hI hS hσ hR=>?_⟩
 have H0:=hS 0 ⟨1,true,false,l.map iC⟩ rfl
 match vs,hR with
 | [a0],hR =>
 have r0:Rep ⟨w,M,σ⟩ a0 (.own 0 0 l.length):=hR.2 0 a0 _ rfl rfl
 obtain ⟨en,k1,k2,k3,k4⟩:=own_intv r0 H0
 have none_:∀ (ad:Option Addr) c,l=[]->a0 = .slice ad 0 c->Calls Tryz.prog 95 #[a0] w λe w'=>∃ v σ',e = .returned v/\Inv ⟨w,Xof σ,Yof σ⟩ ⟨w',M,σ'⟩/\QcK σ σ'/\Rep ⟨w',M,σ'⟩ v (.tup [])/\(∀ s ob,Sto.get [(0,⟨1,true,false,(Qfb l).map iC⟩)] s=some ob->QC ⟨w',M,σ'⟩ s ob)/\∀ s,idb [(0,(⟨1,true,false,(Qfb l).map iC⟩:Ob))] 1<=s->σ' s=none:=λad c h0 ha=>by
  subst h0 ha
  refine (Any.slices_Sort_int_none srtLay ad c w).mono ?_
  rintro e w' ⟨rfl,rfl⟩
  exact ⟨_,σ,rfl,hI,entR σ,.tup rfl (λi v d hv=>by simp at hv),λs ob h=>hS s ob (by rw [show Qfb []=[] by simp [Qfb]] at h;exact h),λs hs=>hσ s hs⟩
 rcases k4 with ⟨g,cap,k4,rfl,k5,k6,cur,T,c1,c2,c3⟩ | ⟨h0,k4,ha⟩
 ·by_cases h0:l=[]
  ·exact none_ _ cap h0 (by rw [h0];rfl)
  ·have hpos:=List.length_pos_iff.2 h0
   have hH:Go.Sort.Holds (Value.int .i64) w g 0 l.toArray:=Lib.holds_of_ints (n:=l.length) (Wo _) (λj hj=>by rw [Vs,cell_block c1,c3 j hj];simp [List.getD,hj]) (λj hj=>Qfg c1) |> λk=>by rwa [WH] at k
   refine (Any.slices_Sort_int srtLay g 0 cap l w hH ((Yf.1 c1).1) Oo).mono ?_
   rintro e w' ⟨rfl,n,os,rfl⟩
   rw [Lib.putRow_eq_setCells _ w g 0 _ _ n hH Os,show (l.mergeSort λx y=>decide (x<=y))=Qfb l from rfl]
   have hg:=Qe6 g ((Qfb l).map (Value.int .i64)) 0 (w.drewN n)
   obtain ⟨cur',d1,d2⟩:=Qfa ((Qfb l).map (Value.int .i64)) 0 (w.drewN n) cur c1 (by rw [Wb,srtL_len];omega)
   have hgw:g < w.heap.size:=(Yf.1 c1).1
   have hsz:w.heap.size<=((w.drewN n).setCells g 0 ((Qfb l).map (Value.int .i64))).heap.size:=hg.size
   have hold:∀ k,k < w.heap.size->(Sort.grow ((w.drewN n).setCells g 0 ((Qfb l).map (Value.int .i64))) os).heap[k]?=((w.drewN n).setCells g 0 ((Qfb l).map (Value.int .i64))).heap[k]?:=λk hk=>by
    show (_++os)[k]?=_
    rw [VU (Vz hk hsz)]
   have hT:=turn_at hI k1 (Sort.grow ((w.drewN n).setCells g 0 ((Qfb l).map (Value.int .i64))) os) true (λ_=>k3) hg.os hg.tape hg.output (by
    show w.heap.size<=(_++os).size
    rw [Yo]
    exact Ur hsz (Nat.le_add_right _ _)) (λk hk h=>by
    rw [hold k hk]
    exact hg.block k hk λe=>by
     injection e with e
     subst e
     have:=h _ k4
     rw [k3] at this
     cases this)
   refine ⟨_,_,rfl,hT.1,hT.2.ent,.tup rfl (λi v d hv=>by simp at hv),λs ob hob=>?_,λs hs=>?_⟩
   ·obtain ⟨rfl,rfl⟩:s=0/\ob=⟨1,true,false,(Qfb l).map iC⟩:=by
     rw [Sto.get_cons] at hob
     split at hob
     ·rename_i h;injection hob with hob;exact ⟨h,hob.symm⟩
     ·cases hob
    have row:Row ⟨Sort.grow ((w.drewN n).setCells g 0 ((Qfb l).map (Value.int .i64))) os,M,ZN σ 0 (some { en with mu:=true })⟩ ⟨1,true,false,(Qfb l).map iC⟩ g cap:=by
     refine Qfe (T:=T) ((hold g hgw).trans d1) ?_ (by rw [srtL_len];exact k5) k6 λj hj=>?_
     ·rw [<- Vv,d2,Wn,Wn,Ws,WY,Wb,srtL_len,Vv]
      omega
     ·have:cur'.toList[j]?=some (.int .i64 (Qfb l)[j]):=by
       rw [d2,Uo,UJ,WK (by rw [Wb];exact hj),Wg,Wa hj]
       rfl
      simpa using this
    exact QC.of (e:={ en with mu:=true }) (by dsimp only;exact Qh _ _ _) k2 rfl k4 row (row.deep rfl _)
   ·have hs:1<=s:=hs
    show ZN σ 0 _ s=none
    rw [Za _ _ Oo]
    exact hσ s hs
 ·exact none_ none 0 h0 ha
noncomputable def Qe4(xs:List Int):Option (List Int):=if xs.length<=1099511627776 then some (Qfb xs) else none
theorem Qfc{xs r:List Int}(H:Sm (Qe4 xs) r):DCall Tryz.prog 95 [.own 0 0 xs.length] [(0,⟨1,true,false,xs.map iC⟩)] (.tup []) [(0,⟨1,true,false,r.map iC⟩)]:=by
 obtain ⟨h1,h2⟩:=cq H
 have e:=se h2
 subst e
 exact sort_dcall h1
noncomputable def cptL(l:List Int):List Int:=Lib.compact l
set_option maxHeartbeats 1000000 in
theorem compact_dcall{l:List Int}(hl:l.length<=1099511627776):DCall Tryz.prog 96 [.own 0 0 l.length] [(0,⟨1,true,false,l.map iC⟩)] (.own 1 0 (cptL l).length) [(1,⟨1,true,false,(cptL l).map iC⟩)]:=by
 refine ⟨enter_ok Tryz.func96 rfl rfl,λw M σ vs hI hS hσ hR=>?_⟩
 have H0:=hS 0 ⟨1,true,false,l.map iC⟩ rfl
 match vs,hR with
 | [a0],hR =>
 have r0:Rep ⟨w,M,σ⟩ a0 (.own 0 0 l.length):=hR.2 0 a0 _ rfl rfl
 obtain ⟨en,k1,k2,k3,k4⟩:=own_intv r0 H0
 have h1n:σ 1=none:=hσ 1 (Wo _)
 have fin:∀ (w':World) (v:Value),(Inv ⟨w,Xof σ,Yof σ⟩ ⟨w',M,ZN (ZN σ 0 none) 1 (some ⟨1,en.blk,true,noI⟩)⟩/\Loc [0,1] ⟨w,M,σ⟩ ⟨w',M,ZN (ZN σ 0 none) 1 (some ⟨1,en.blk,true,noI⟩)⟩)->Rep ⟨w',M,ZN (ZN σ 0 none) 1 (some ⟨1,en.blk,true,noI⟩)⟩ v (.own 1 0 (cptL l).length)->QC ⟨w',M,ZN (ZN σ 0 none) 1 (some ⟨1,en.blk,true,noI⟩)⟩ 1 ⟨1,true,false,(cptL l).map iC⟩ ->
   ∃ v' σ',Ending.returned v = .returned v'/\Inv ⟨w,Xof σ,Yof σ⟩ ⟨w',M,σ'⟩/\QcK σ σ'/\Rep ⟨w',M,σ'⟩ v' (.own 1 0 (cptL l).length)/\(∀ s ob,Sto.get [(1,⟨1,true,false,(cptL l).map iC⟩)] s=some ob->QC ⟨w',M,σ'⟩ s ob)/\∀ s,idb [(1,(⟨1,true,false,(cptL l).map iC⟩:Ob))] 1<=s->σ' s=none:=λw' v hT hr hh=>by
  refine ⟨v,_,rfl,hT.1,hT.2.ent,hr,λs ob hob=>?_,λs hs=>?_⟩
  ·obtain ⟨rfl,rfl⟩:s=1/\ob=⟨1,true,false,(cptL l).map iC⟩:=by
    rw [Sto.get_cons] at hob
    split at hob
    ·rename_i h;injection hob with hob;exact ⟨h,hob.symm⟩
    ·cases hob
   exact hh
  ·have hs:2<=s:=hs
   show ZN (ZN σ 0 none) 1 _ s=none
   rw [Za _ _ Oo,Za _ _ Oo]
   exact hσ s (by show 1<=s;omega)
 rcases k4 with ⟨g,cap,k4,rfl,k5,k6,cur,T,c1,c2,c3⟩ | ⟨rfl,k4,rfl⟩
 ·have hle:(cptL l).length<=l.length:=Lib.compact_length_le l
  by_cases h0:l=[]
  ·subst h0
   refine (Any.slices_Compact_int_empty cptLay (some ⟨g,0,none⟩) cap w).mono ?_
   rintro e w' ⟨rfl,rfl⟩
   have hT:=Qd1 hI k1 k3 h1n w' ⟨1,en.blk,true,noI⟩ rfl rfl rfl (Wo _) (λ_ _ _=>rfl) (λg c h=>.inl ⟨c,h⟩)
   refine fin w' _ hT ?_ ?_
   ·exact own_mem (Qh _ _ _) k4 (W9 _) k6
   ·have row:Row ⟨w',M,ZN (ZN σ 0 none) 1 (some ⟨1,en.blk,true,noI⟩)⟩ ⟨1,true,false,(cptL []).map iC⟩ g cap:=Qfe (T:=T) c1 c2 (W9 _) k6 λj hj=>absurd hj (Vo _)
    exact QC.of (e:=⟨1,en.blk,true,noI⟩) (by dsimp only;exact Qh _ _ _) rfl rfl k4 row (row.deep rfl _)
  ·refine (Any.slices_Compact_int_cells cptLay g 0 l.length cap l w (Wo _) Oo k5 (λj hj=>by rw [Vs,cell_block c1,c3 j hj];simp [List.getD,hj]) (λj hj=>Qfg c1)).mono ?_
   rintro e w' ⟨rfl,q,rfl⟩
   rw [WH,show Lib.compact l=cptL l from rfl]
   have hg:=Qe6 g ((cptL l++List.replicate (l.length - (cptL l).length) 0).map (Value.int .i64)) 0 (w.drewN q)
   obtain ⟨cur',d1,d2⟩:=Qfa ((cptL l++List.replicate (l.length - (cptL l).length) 0).map (Value.int .i64)) 0 (w.drewN q) cur c1 (by rw [Wb,Wn,W8];omega)
   have hT:=Qd1 hI k1 k3 h1n _ ⟨1,en.blk,true,noI⟩ hg.os hg.tape hg.output hg.size (λk hk h=>hg.block k hk λe=>by
    injection e with e
    subst e
    exact h _ k4) (λg c h=>.inl ⟨c,h⟩)
   refine fin _ _ hT ?_ ?_
   ·exact own_mem (Qh _ _ _) k4 Oo k6
   ·have row:Row ⟨(w.drewN q).setCells g 0 ((cptL l++List.replicate (l.length - (cptL l).length) 0).map (Value.int .i64)),M,ZN (ZN σ 0 none) 1 (some ⟨1,en.blk,true,noI⟩)⟩ ⟨1,true,false,(cptL l).map iC⟩ g cap:=by
     refine Qfe (T:=T) d1 ?_ Oo k6 λj hj=>?_
     ·rw [<- Vv,d2,Wn,Wn,Ws,WY,Wb,Wn,W8,Vv]
      omega
     ·have:cur'.toList[j]?=some (.int .i64 (cptL l)[j]):=by
       rw [d2,Uo,UJ,WF,WX,WK (by rw [Wb];exact hj),Wg,Wa hj]
       rfl
      simpa using this
    exact QC.of (e:=⟨1,en.blk,true,noI⟩) (by dsimp only;exact Qh _ _ _) rfl rfl k4 row (row.deep rfl _)
 ·refine (Any.slices_Compact_int_empty cptLay none 0 w).mono ?_
  rintro e w' ⟨rfl,rfl⟩
  have hT:=Qd1 hI k1 k3 h1n w' ⟨1,en.blk,true,noI⟩ rfl rfl rfl (Wo _) (λ_ _ _=>rfl) (λg c h=>.inl ⟨c,h⟩)
  refine fin w' _ hT ?_ ?_
  ·exact .ownNil (e:=⟨1,en.blk,true,noI⟩) (by dsimp only;exact Qh _ _ _) k4
  ·exact ⟨⟨1,en.blk,true,noI⟩,by dsimp only;exact Qh _ _ _,rfl,rfl,by rw [k4];exact ⟨rfl,Nat.one_pos⟩⟩
noncomputable def Qe1(xs:List Int):Option (List Int):=if xs.length<=1099511627776 then some (cptL xs) else none
theorem Qe9{xs r:List Int}(H:Sm (Qe1 xs) r):DCall Tryz.prog 96 [.own 0 0 xs.length] [(0,⟨1,true,false,xs.map iC⟩)] (.own 1 0 r.length) [(1,⟨1,true,false,r.map iC⟩)]:=by
 obtain ⟨h1,h2⟩:=cq H
 have e:=se h2
 subst e
 exact compact_dcall h1
end Go.Proofs.YthpnlnjdmlbnaaaGreatDoor
