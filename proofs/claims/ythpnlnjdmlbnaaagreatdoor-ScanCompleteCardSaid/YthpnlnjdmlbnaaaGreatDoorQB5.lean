/- Parts of the proof. No condition. -/
import Derived.Test.YthpnlnjdmlbnaaaGreatDoorQB0
import Derived.Test.YthpnlnjdmlbnaaaGreatDoorQB3
import Derived.Test.YthpnlnjdmlbnaaaGreatDoorQB4
namespace Go.Proofs.YthpnlnjdmlbnaaaGreatDoor
open Go.RowKit
set_option linter.unusedSimpArgs false
set_option linter.unusedVariables false
set_option maxRecDepth 20000
set_option maxHeartbeats 40000000
noncomputable def ZV(p0:Nat)(p1:Int):Option (Int×Int) :=
 (Xn p0).bind λv2 =>
 if v2=true then
 (if p1 < 1 then
 (some ((0,1)))
 else
 if 64 < p1 then
 (some ((0,1)))
 else
 if (Qez .eql p0 0)=true then
 (some ((0,0)))
 else
 if 0 < (w64 (bits .and .u64 (Qb2 .u64 ((p0:Nat):Int) 52) 2047)) then
 (if (w64 (1075 - (w64 (bits .and .u64 (Qb2 .u64 ((p0:Nat):Int) 52) 2047)))) < 64 then
 (if 0<=wu (w64 (1075 - (w64 (bits .and .u64 (Qb2 .u64 ((p0:Nat):Int) 52) 2047)))) then
 some ((max 1 (w64 (Qb2 .u64 (wu ((bits .or .u64 (bits .and .u64 ((p0:Nat):Int) 4503599627370495) 4503599627370496) * (wu p1))) (wu (w64 (1075 - (w64 (bits .and .u64 (Qb2 .u64 ((p0:Nat):Int) 52) 2047))))))),0))
 else none)
 else
 some ((max 1 (w64 0),0)))
 else
 if (1074:Int) < 64 then
 (if 0<=wu 1074 then
 some ((max 1 (w64 (Qb2 .u64 (wu ((bits .and .u64 ((p0:Nat):Int) 4503599627370495) * (wu p1))) (wu 1074))),0))
 else none)
 else
 some ((max 1 (w64 0),0)))
 else
 some ((0,6))
theorem Qda{p0 p1 r}:Sm (ZV p0 p1) r->DCall Tryz.prog 168 [.lit (.float .f64 p0),DI p1] [] (.tup [DI r.1,DI r.2]) []:=by
 unfold ZV
 refine mk0 Tryz.func168 ?_
 refine ar ?_
 refine sq λK k=>?_
 refine xd λv2 hv2=>?_
 have q0:=cS r0 (Qa4 hv2)
 refine ar ?_
 refine xs (λh3=>?_) λh3=>?_
 refine cb ?_
 refine sq λK k=>?_
 refine xs (λh5=>?_) λh5=>?_
 refine ar ?_
 refine da ?_
 exact ftt r0
 refine ar ?_
 refine xs (λh6=>?_) λh6=>?_
 refine da ?_
 exact ftt r0
 refine cb ?_
 refine sq λK k=>?_
 refine ar ?_
 refine goA (Qdm (.inl rfl)) ?_
 refine au ?_
 refine xs (λh8=>?_) λh8=>?_
 refine da ?_
 exact ftt r0
 refine db ?_
 refine goA (m_ext1 (u:=.float .f64 p0) (v:=.int .u64 ((p0:Nat):Int)) (λ_=>by rw [run_callFunc_extern Tryz.func204 Ok Ok Ok (e:=Extern.MathFloatBits.float64bits) Ok];rfl) rfl) ?_
 refine au ?_
 refine ar ?_
 refine ar ?_
 refine sq λK k=>?_
 refine ar ?_
 refine xs (λh10=>?_) λh10=>?_
 refine da ?_
 refine ar ?_
 refine ar ?_
 refine sq λK k=>?_
 refine ar ?_
 refine xs (λh12=>?_) λh12=>?_
 refine ca ?_
 refine xc λh13=>?_
 refine ar ?_
 refine ar ?_
 refine goA (m_max) ?_
 refine au ?_
 exact ftt r0
 refine db ?_
 refine goA (m_max) ?_
 refine au ?_
 exact ftt r0
 refine db ?_
 refine sq λK k=>?_
 refine ar ?_
 refine xs (λh15=>?_) λh15=>?_
 refine ca ?_
 refine xc λh16=>?_
 refine ar ?_
 refine ar ?_
 refine goA (m_max) ?_
 refine au ?_
 exact ftt r0
 refine db ?_
 refine goA (m_max) ?_
 refine au ?_
 exact ftt r0
 refine da ?_
 exact ftt r0
noncomputable def JA(p0:Sp):Option Int :=
 (Zm p0.sh).bind λv2 =>
 if v2=true then
 (if 0<=wu p0.sh then
 some (Qcq .i64 1 (wu p0.sh))
 else none)
 else
 some (0)
theorem QeU{p0 r}:Sm (JA p0) r->DCall Tryz.prog 169 [.agg [DI p0.sh,.sl (p0.ws.map uC),.sl (p0.fs.map frC)]] [] (DI r) []:=by
 unfold JA
 refine mk0 Tryz.func169 ?_
 refine ar ?_
 refine sq λK k=>?_
 refine xd λv2 hv2=>?_
 have q0:=cS r0 (Xx hv2)
 refine ar ?_
 refine xs (λh3=>?_) λh3=>?_
 refine cb ?_
 refine xc λh4=>?_
 refine ar ?_
 exact ft r0
 refine da ?_
 exact ft r0
noncomputable def QE(p0:Sp)(p1:Inc):Option Int :=
 (XS p1.words p0.sh).bind λv1 =>
 some (v1)
theorem Q9{p0 p1 r}:Sm (QE p0 p1) r->DCall Tryz.prog 76 [.agg [DI p0.sh,.sl (p0.ws.map uC),.sl (p0.fs.map frC)],.agg [DI p1.seq,DI p1.belt,DI p1.first,DI p1.last,DI p1.words]] [] (DI r) []:=by
 unfold QE
 refine mk0 Tryz.func76 ?_
 refine ar ?_
 refine xd λv1 hv1=>?_
 have q0:=cS r0 (QbD hv1)
 refine ar ?_
 exact ft r0
noncomputable def Jz(p0:Sp):Option Int :=
 (Zl p0).bind λv1 =>
 some (w64 ((p0.fs.length:Int) - (v1.length:Int)))
theorem QeS{p0 r}:Sm (Jz p0) r->DCall Tryz.prog 228 [.agg [DI p0.sh,.sl (p0.ws.map uC),.sl (p0.fs.map frC)]] [] (DI r) []:=by
 unfold Jz
 refine mk0 Tryz.func228 ?_
 refine ar ?_
 refine xd λv1 hv1=>?_
 have q0:=cS r0 (Xe hv1)
 refine ar ?_
 exact ft r0
noncomputable def Xt(p0:List (List Inc))(p1:List Int):Option Bool :=
 (XB p0).bind λv1 =>
 if (v1.length:Int) < (p1.length:Int) then
 (some (false))
 else
 bndR (Qi (λ(s7:Int) =>
 if s7 < (p1.length:Int) then
 (bndR ((at_ p1 s7).bind λv13 =>
 bndR (Qi (λ(s17:Int) =>
 if s17 < s7 then
 ((at_ p1 s17).bind λv22 =>
 if v22=v13 then
 (some (.out (.inr (.inr (.out (.inr (false)))))))
 else
 some (.go (w64 (s17+1))))
 else
 some (.out (.inl (())))) 0) λ(b14:Unit) =>
 (if (0:Int)<=0/\0<=(p1.length:Int)/\(p1.length:Int)<=v1.length then
 Qi (λ(s28:Bool×Int) =>
 if s28.2 < (((v1.take (Int.toNat (p1.length:Int))).drop (Int.toNat 0)).length:Int) then
 ((at_ ((v1.take (Int.toNat (p1.length:Int))).drop (Int.toNat 0)) s28.2).bind λv33 =>
 if s28.1=true then
 (some (.go ((true,w64 (s28.2+1)))))
 else
 some (.go ((decide (v33.seq=v13),w64 (s28.2+1)))))
 else
 some (.out (s28.1))) (false,0)
 else none).bind λ(b24:Bool) =>
 if b24=true then
 (some (.inl (())))
 else
 some (.inr (.out (.inr (false))))) λ(b11:Unit) =>
 some (.go (w64 (s7+1))))
 else
 some (.out (.inl (())))) 0) λ(b4:Unit) =>
 bndR (if (0:Int)<=0/\0<=(p1.length:Int)/\(p1.length:Int)<=v1.length then
 Qi (λ(s40:Int) =>
 if s40 < (((v1.take (Int.toNat (p1.length:Int))).drop (Int.toNat 0)).length:Int) then
 (bndR ((at_ ((v1.take (Int.toNat (p1.length:Int))).drop (Int.toNat 0)) s40).bind λv46 =>
 (Qi (λ(s50:Bool×Int) =>
 if s50.2 < (p1.length:Int) then
 ((at_ p1 s50.2).bind λv55 =>
 if s50.1=true then
 (some (.go ((true,w64 (s50.2+1)))))
 else
 some (.go ((decide (v46.seq=v55),w64 (s50.2+1)))))
 else
 some (.out (s50.1))) (false,0)).bind λ(b47:Bool) =>
 if b47=true then
 (some (.inl (())))
 else
 some (.inr (.out (.inr (false))))) λ(b44:Unit) =>
 some (.go (w64 (s40+1))))
 else
 some (.out (.inl (())))) 0
 else none) λ(b36:Unit) =>
 some (true)
theorem Qc9{p0 p1 r}:Sm (Xt p0 p1) r->DCall Tryz.prog 124 [.sl (p0.map (lC Inc.c)),.sl (p1.map iC)] [] (DB r) []:=by
 unfold Xt
 refine mk0 Tryz.func124 ?_
 refine ar ?_
 refine xd λv1 hv1=>?_
 have q0:=cG r0 (QeQ hv1)
 refine ar ?_
 refine sq λK k=>?_
 refine ar ?_
 refine xs (λh3=>?_) λh3=>?_
 refine da ?_
 exact ft r0
 refine cb ?_
 refine cU [1,5] [] [] [] [] 0 (λz5 hr5=>?_) λb4=>?_
 refine ar ?_
 refine lP [1,5,24,25] [(26,λs7=>DI s7)] [] [] [] 0 λs7 y8 hq8=>?_
 refine ar ?_
 refine sq λK k=>?_
 refine xs (λh10=>?_) λh10=>?_
 refine ca ?_
 refine cU [1,5,24,25,26] [] [] [] [] 0 (λz12 hr12=>?_) λb11=>?_
 refine au ?_
 refine xa λv13 hv13=>?_
 refine ar ?_
 refine cU [1,5,7,24,25,26] [] [] [] [] 0 (λz15 hr15=>?_) λb14=>?_
 refine ar ?_
 refine lP [1,5,6,7,24,25,26] [(8,λs17=>DI s17)] [] [] [] 0 λs17 y18 hq18=>?_
 refine sq λK k=>?_
 refine ar ?_
 refine xs (λh20=>?_) λh20=>?_
 refine ca ?_
 refine sq λK k=>?_
 refine au ?_
 refine xa λv22 hv22=>?_
 refine ar ?_
 refine xs (λh23=>?_) λh23=>?_
 refine da ?_
 refine xo hq18 ?_
 refine xr hr15 ?_
 refine xr hr12 ?_
 refine xo hq8 ?_
 refine xr hr5 ?_
 exact ft r0
 refine db ?_
 exact wJ []
 refine cb ?_
 refine xo hq18 ?_
 exact wJ []
 refine ar ?_
 refine cT [1,5,24,25,26] [(9,λb24=>DB b24)] [] [] [] 0 (λz25=>?_) λb24=>?_
 refine xc λh26=>?_
 refine ar ?_
 refine goA (m_slS (a:=0) (b:=(p1.length:Int)) h26 i46.ok i49.ok (.inl ⟨rfl,rfl⟩) (.inr ⟨_,_,rfl,rfl⟩)) ?_
 refine au ?_
 refine lP [1,5,7,24,25,26,45,46] [(9,λs28=>DB s28.1),(47,λs28=>DI s28.2)] [] [] [] 0 λs28 y29 hq29=>?_
 refine ar ?_
 refine sq λK k=>?_
 refine xs (λh31=>?_) λh31=>?_
 refine ca ?_
 refine sq λK k=>?_
 refine au ?_
 refine xa λv33 hv33=>?_
 refine ar ?_
 refine xs (λh34=>?_) λh34=>?_
 refine ar ?_
 refine ar ?_
 exact wJ []
 refine ar ?_
 refine ar ?_
 exact wJ []
 refine cb ?_
 refine xo hq29 ?_
 exact wJ []
 refine ar ?_
 refine xs (λh35=>?_) λh35=>?_
 refine cb ?_
 exact wJ []
 refine da ?_
 refine xr hr12 ?_
 refine xo hq8 ?_
 refine xr hr5 ?_
 exact ft r0
 refine ar ?_
 exact wJ []
 refine cb ?_
 refine xo hq8 ?_
 exact wJ []
 refine cU [] [] [] [] [] 0 (λz37 hr37=>?_) λb36=>?_
 refine xc λh38=>?_
 refine ar ?_
 refine goA (m_slS (a:=0) (b:=(p1.length:Int)) h38 i46.ok i49.ok (.inl ⟨rfl,rfl⟩) (.inr ⟨_,_,rfl,rfl⟩)) ?_
 refine au ?_
 refine lP [1,65,66] [(67,λs40=>DI s40)] [] [] [] 0 λs40 y41 hq41=>?_
 refine ar ?_
 refine sq λK k=>?_
 refine xs (λh43=>?_) λh43=>?_
 refine ca ?_
 refine cU [1,65,66,67] [] [] [] [] 0 (λz45 hr45=>?_) λb44=>?_
 refine au ?_
 refine xa λv46 hv46=>?_
 refine ar ?_
 refine ar ?_
 refine cT [1,65,66,67] [(14,λb47=>DB b47)] [] [] [] 0 (λz48=>?_) λb47=>?_
 refine ar ?_
 refine lP [1,65,66,67,71,72] [(13,λs50=>.ptr 0 0 0),(14,λs50=>DB s50.1),(73,λs50=>DI s50.2)] [0] [] [] 1 λs50 y51 hq51=>?_
 refine ar ?_
 refine sq λK k=>?_
 refine xs (λh53=>?_) λh53=>?_
 refine ca ?_
 refine sq λK k=>?_
 refine au ?_
 refine xa λv55 hv55=>?_
 refine ar ?_
 refine xs (λh56=>?_) λh56=>?_
 refine ar ?_
 refine ar ?_
 exact wJ []
 refine ar ?_
 refine ar ?_
 exact wJ []
 refine cb ?_
 refine xo hq51 ?_
 exact wJ []
 refine ar ?_
 refine xs (λh57=>?_) λh57=>?_
 refine cb ?_
 exact wJ []
 refine da ?_
 refine xr hr45 ?_
 refine xo hq41 ?_
 refine xr hr37 ?_
 exact ft r0
 refine ar ?_
 exact wJ []
 refine cb ?_
 refine xo hq41 ?_
 exact wJ []
 refine ar ?_
 exact ft r0
noncomputable def Zv(p0:Sp)(p1:Rts)(p2:List Inc):Option (List Int) :=
 ((Zy p1).bind λv3 =>
 Qi (λ(s6:List Int×Int) =>
 if s6.2 < (v3.length:Int) then
 ((at_ v3 s6.2).bind λv11 =>
 (at_ p1.refs (w64 (v11 - 1))).bind λv12 =>
 (Zo p0 p2 v12).bind λv13 =>
 if v13=true then
 (if ((s6.1.length:Int)+[v11].length) * 8<=140737488355328/\(s6.1.length:Int)+[v11].length<=9223372036854775807 then
 some (.go ((s6.1++[v11],w64 (s6.2+1))))
 else none)
 else
 some (.go ((s6.1,w64 (s6.2+1)))))
 else
 some (.out (s6.1))) (([]:List Int),0)).bind λ(b1:List Int) =>
 some (b1)
theorem Qad{p0 p1 p2 r}:Sm (Zv p0 p1 p2) r->DCall Tryz.prog 26 [.agg [DI p0.sh,.sl (p0.ws.map uC),.sl (p0.fs.map frC)],.agg [.sl (p1.used.map bC),.sl (p1.refs.map uC)],.sl (p2.map Inc.c)] [] (.own 0 0 r.length) [(0,aO 1 (r.map iC))]:=by
 unfold Zv
 refine mk0 Tryz.func26 ?_
 refine ar ?_
 refine ar ?_
 refine cT [] [(7,λb1=>.own 2 0 b1.length)] [] [] [(2,λb1=>aO 1 (b1.map iC))] 3 (λz2=>?_) λb1=>?_
 refine xd λv3 hv3=>?_
 have q0:=cS r0 (X4 hv3)
 refine ar ?_
 refine xx (QU 7 1 Od rfl) ?_
 refine lP [2,12] [(3,λs6=>.ptr 0 0 0),(4,λs6=>.ptr 1 0 0),(7,λs6=>.own 3 0 s6.1.length),(11,λs6=>.own 2 0 v3.length),(13,λs6=>DI s6.2)] [0,1,2] [] [(3,λs6=>aO 1 (s6.1.map iC))] 4 λs6 y7 hq7=>?_
 refine ar ?_
 refine sq λK k=>?_
 refine xs (λh9=>?_) λh9=>?_
 refine ca ?_
 refine sq λK k=>?_
 refine au ?_
 refine xa λv11 hv11=>?_
 refine ar ?_
 refine xa λv12 hv12=>?_
 refine xd λv13 hv13=>?_
 replace q0:=cS r0 (Jn hv13)
 refine ar ?_
 refine xs (λh14=>?_) λh14=>?_
 refine ca ?_
 refine xc λh15=>?_
 refine ar ?_
 refine goA (Qk (c:=iC) ([v11]:List Int) i22.ok i3.ok) ?_
 refine goA (QT (c:=iC) s6.1 [v11] h15 i22.ok i3.ok rfl rfl (.own rfl rfl Os (Qf (c:=iC) (λ_=>rfl) _)) rfl) ?_
 refine au ?_
 refine ar ?_
 exact wJ [(3,5)]
 refine db ?_
 exact wJ []
 refine cb ?_
 refine xo hq7 ?_
 exact wJ [(2,3)]
 refine ar ?_
 exact ft [(0,2)]
noncomputable def Jy(p0:List Qe)(p1:List Int):Option (List Int×Int) :=
 (Qi (λ(s4:List Int×Int×Int) =>
 if s4.2.2 < (p0.length:Int) then
 (((at_ p0 s4.2.2).bind λv10 =>
 (XK p1 v10.to).bind λv11 =>
 if v11=true then
 ((XK p1 v10.frm).bind λv13 =>
 if v13=true then
 (some ((s4.1,s4.2.1)))
 else
 Qi (λ(s16:List Int×Int) =>
 if s16.2 < (v10.slots.length:Int) then
 ((at_ v10.slots s16.2).bind λv21 =>
 (XJ s16.1 v21).bind λv22 =>
 some (.go ((v22,w64 (s16.2+1)))))
 else
 some (.out ((s16.1,w64 (s4.2.1+(v10.slots.length:Int)))))) (s4.1,0))
 else
 some ((s4.1,s4.2.1))).bind λ(b8:List Int×Int) =>
 some (.go ((b8.1,b8.2,w64 (s4.2.2+1)))))
 else
 some (.out ((s4.1,s4.2.1)))) ([],0,0)).bind λ(b1:List Int×Int) =>
 some ((b1.1,b1.2))
theorem QeO{p0 p1 r}:Sm (Jy p0 p1) r->DCall Tryz.prog 52 [.sl (p0.map Qe.c),.sl (p1.map iC)] [] (.tup [.sl (r.1.map iC),DI r.2]) []:=by
 unfold Jy
 refine mk0 Tryz.func52 ?_
 refine ar ?_
 refine ar ?_
 refine ar ?_
 refine cT [] [(6,λb1=>.sl (b1.1.map iC)),(7,λb1=>DI b1.2)] [] [] [] 0 (λz2=>?_) λb1=>?_
 refine ar ?_
 refine lP [1,12,13] [(6,λs4=>.sl (s4.1.map iC)),(7,λs4=>DI s4.2.1),(14,λs4=>DI s4.2.2)] [] [] [] 0 λs4 y5 hq5=>?_
 refine ar ?_
 refine sq λK k=>?_
 refine xs (λh7=>?_) λh7=>?_
 refine ca ?_
 refine cT [1,12,13,14] [(6,λb8=>.sl (b8.1.map iC)),(7,λb8=>DI b8.2)] [] [] [] 0 (λz9=>?_) λb8=>?_
 refine au ?_
 refine xa λv10 hv10=>?_
 refine ar ?_
 refine xd λv11 hv11=>?_
 refine xs (λh12=>?_) λh12=>?_
 refine xd λv13 hv13=>?_
 refine ar ?_
 refine goA (m_cS r0 (Xm hv11) rfl ScS.nil) ?_
 refine au ?_
 refine go (m_cS r0 (Xm hv13) rfl ScS.nil) ?_ (gY h12)
 refine au ?_
 refine xs (λh14=>?_) λh14=>?_
 refine cb ?_
 exact wJ []
 refine da ?_
 refine ar ?_
 refine lP [1,7,12,13,14,35,36] [(6,λs16=>.sl (s16.1.map iC)),(37,λs16=>DI s16.2)] [] [] [] 0 λs16 y17 hq17=>?_
 refine ar ?_
 refine sq λK k=>?_
 refine xs (λh19=>?_) λh19=>?_
 refine ca ?_
 refine sq λK k=>?_
 refine au ?_
 refine xa λv21 hv21=>?_
 refine ar ?_
 refine xd λv22 hv22=>?_
 have q0:=cG r0 (Qbx hv22)
 refine ar ?_
 refine ar ?_
 exact wJ []
 refine cb ?_
 refine xo hq17 ?_
 exact wJ []
 have q0:=cS r0 (Xm hv11)
 refine ar ?_
 refine cb ?_
 exact wJ []
 refine ar ?_
 exact wJ []
 refine cb ?_
 refine xo hq5 ?_
 exact wJ []
 refine ar ?_
 exact ftt r0
noncomputable def Q4(p0:Sp)(p1:Int):Option (Int×Int×Int) :=
 (QB p0 p1 0).bind λv2 =>
 if v2.2=0 then
 ((at_ p0.ws p1).bind λv4 =>
 (ZU v4).bind λv5 =>
 if v5.2.2.2.2=0 then
 (if v5.2.2.2.1=true then
 (some ((0,0,12)))
 else
 (QB p0 p1 (w64 (v5.1+v5.2.1))).bind λv10 =>
 if v10.2=0 then
 (some ((v5.1,v5.2.1,0)))
 else
 some ((0,0,2)))
 else
 some ((0,0,12)))
 else
 some ((0,0,v2.2))
theorem Xb{p0 p1 r}:Sm (Q4 p0 p1) r->DCall Tryz.prog 50 [.agg [DI p0.sh,.sl (p0.ws.map uC),.sl (p0.fs.map frC)],DI p1] [] (.tup [DI r.1,DI r.2.1,DI r.2.2]) []:=by
 unfold Q4
 refine mk0 Tryz.func50 ?_
 refine ar ?_
 refine sq λK k=>?_
 refine xd λv2 hv2=>?_
 have q0:=cS r0 (QG hv2)
 refine ar ?_
 refine ar ?_
 refine xs (λh3=>?_) λh3=>?_
 refine cb ?_
 refine xa λv4 hv4=>?_
 refine xd λv5 hv5=>?_
 replace q0:=cS r0 (QaC hv5)
 refine ar ?_
 refine sq λK k=>?_
 refine xs (λh7=>?_) λh7=>?_
 refine ar ?_
 refine xs (λh8=>?_) λh8=>?_
 refine da ?_
 exact fttt r0
 refine cb ?_
 refine sq λK k=>?_
 refine xd λv10 hv10=>?_
 replace q0:=cS r0 (QG hv10)
 refine ar ?_
 refine ar ?_
 refine xs (λh11=>?_) λh11=>?_
 refine db ?_
 exact fttt r0
 refine da ?_
 exact fttt r0
 refine ar ?_
 refine da ?_
 exact fttt r0
 refine da ?_
 exact fttt r0
noncomputable def XL(p0:List Qe)(p1:List Int):Option (List Qe) :=
 ((ZA p0).bind λv3 =>
 Qi (λ(s6:List Qe×Int) =>
 if s6.2 < (v3.length:Int) then
 ((at_ v3 s6.2).bind λv11 =>
 (XK p1 v11.frm).bind λv12 =>
 if v12=true then
 (some (.go ((s6.1,w64 (s6.2+1)))))
 else
 (XK p1 v11.to).bind λv14 =>
 if v14=true then
 (some (.go ((s6.1,w64 (s6.2+1)))))
 else
 if ((s6.1.length:Int)+[v11].length) * 40<=140737488355328/\(s6.1.length:Int)+[v11].length<=9223372036854775807 then
 some (.go ((s6.1++[v11],w64 (s6.2+1))))
 else none)
 else
 some (.out (s6.1))) (([]:List Qe),0)).bind λ(b1:List Qe) =>
 some (b1)
theorem QeP{p0 p1 r}:Sm (XL p0 p1) r->DCall Tryz.prog 118 [.sl (p0.map Qe.c),.sl (p1.map iC)] [] (.own 0 0 r.length) [(0,aO 3 (r.map Qe.c))]:=by
 unfold XL
 refine mk0 Tryz.func118 ?_
 refine ar ?_
 refine ar ?_
 refine cT [] [(5,λb1=>.own 0 0 b1.length)] [] [] [(0,λb1=>aO 3 (b1.map Qe.c))] 1 (λz2=>?_) λb1=>?_
 refine xd λv3 hv3=>?_
 have q0:=cG r0 (X6 hv3)
 refine ar ?_
 refine xx (QU 5 3 Od rfl) ?_
 refine lP [1,10] [(5,λs6=>.own 1 0 s6.1.length),(9,λs6=>.own 0 0 v3.length),(11,λs6=>DI s6.2)] [0] [] [(1,λs6=>aO 3 (s6.1.map Qe.c))] 2 λs6 y7 hq7=>?_
 refine ar ?_
 refine sq λK k=>?_
 refine xs (λh9=>?_) λh9=>?_
 refine ca ?_
 refine sq λK k=>?_
 refine au ?_
 refine xa λv11 hv11=>?_
 refine ar ?_
 refine xd λv12 hv12=>?_
 refine xs (λh13=>?_) λh13=>?_
 replace q0:=cS r0 (Xm hv12)
 refine ar ?_
 refine db ?_
 exact wJ []
 refine xd λv14 hv14=>?_
 refine ar ?_
 refine goA (m_cS r0 (Xm hv12) rfl ScS.nil) ?_
 refine au ?_
 refine go (m_cS r0 (Xm hv14) rfl ScS.nil) ?_ (gY (congrArg not (eq_false_of_ne_true h13)))
 refine au ?_
 refine xs (λh15=>?_) λh15=>?_
 refine db ?_
 exact wJ []
 refine ca ?_
 refine xc λh16=>?_
 refine ar ?_
 refine goA (Qk (c:=Qe.c) ([v11]:List Qe) i31.ok i84.ok) ?_
 refine goA (QT (c:=Qe.c) s6.1 [v11] h16 i31.ok i84.ok rfl rfl (.own rfl rfl Os (Qf (c:=Qe.c) (λ_=>rfl) _)) rfl) ?_
 refine au ?_
 refine ar ?_
 exact wJ [(1,4)]
 refine cb ?_
 refine xo hq7 ?_
 exact wJ [(0,1)]
 refine ar ?_
 exact ft r1
noncomputable def Jo(p0:List Qe)(p1:Int)(p2:Int)(p3:Int):Option (List Qe) :=
 (Qi (λ(s4:Int) =>
 if s4 < (p0.length:Int) then
 ((at_ p0 s4).bind λv8 =>
 (ZT v8 (Qe.mk p1 p2 ([]:List Int))).bind λv9 =>
 if v9=true then
 (some (.go (w64 (s4+1))))
 else
 some (.out (s4)))
 else
 some (.out (s4))) 0).bind λ(b1:Int) =>
 (ZA p0).bind λv11 =>
 if b1 < (p0.length:Int) then
 ((at_ p0 b1).bind λv14 =>
 (ZT (Qe.mk p1 p2 ([]:List Int)) v14).bind λv15 =>
 if v15=true then
 (if 0<=b1/\b1<=v11.length then
 if (((v11.take (Int.toNat (v11.length:Int))).drop (Int.toNat b1)).length:Int) * 40<=140737488355328/\(((v11.take (Int.toNat (v11.length:Int))).drop (Int.toNat b1)).length:Int)<=9223372036854775807 then
 if 0<=b1/\b1<=v11.length then
 if (((v11.take (Int.toNat b1)).length:Int)+[Qe.mk p1 p2 [p3]].length) * 40<=140737488355328/\((v11.take (Int.toNat b1)).length:Int)+[Qe.mk p1 p2 [p3]].length<=9223372036854775807 then
 if ((((v11.take (Int.toNat b1))++[Qe.mk p1 p2 [p3]]).length:Int)+((v11.take (Int.toNat (v11.length:Int))).drop (Int.toNat b1)).length) * 40<=140737488355328/\(((v11.take (Int.toNat b1))++[Qe.mk p1 p2 [p3]]).length:Int)+((v11.take (Int.toNat (v11.length:Int))).drop (Int.toNat b1)).length<=9223372036854775807 then
 some (((v11.take (Int.toNat b1))++[Qe.mk p1 p2 [p3]])++((v11.take (Int.toNat (v11.length:Int))).drop (Int.toNat b1)))
 else none
 else none
 else none
 else none
 else none)
 else
 (XJ v14.slots p3).bind λv23 =>
 (at_ v11 b1).bind λv24 =>
 some (v11.set (Int.toNat b1) (Qe.mk v24.frm v24.to v23)))
 else
 if 0<=b1/\b1<=v11.length then
 if (((v11.take (Int.toNat (v11.length:Int))).drop (Int.toNat b1)).length:Int) * 40<=140737488355328/\(((v11.take (Int.toNat (v11.length:Int))).drop (Int.toNat b1)).length:Int)<=9223372036854775807 then
 if 0<=b1/\b1<=v11.length then
 if (((v11.take (Int.toNat b1)).length:Int)+[Qe.mk p1 p2 [p3]].length) * 40<=140737488355328/\((v11.take (Int.toNat b1)).length:Int)+[Qe.mk p1 p2 [p3]].length<=9223372036854775807 then
 if ((((v11.take (Int.toNat b1))++[Qe.mk p1 p2 [p3]]).length:Int)+((v11.take (Int.toNat (v11.length:Int))).drop (Int.toNat b1)).length) * 40<=140737488355328/\(((v11.take (Int.toNat b1))++[Qe.mk p1 p2 [p3]]).length:Int)+((v11.take (Int.toNat (v11.length:Int))).drop (Int.toNat b1)).length<=9223372036854775807 then
 some (((v11.take (Int.toNat b1))++[Qe.mk p1 p2 [p3]])++((v11.take (Int.toNat (v11.length:Int))).drop (Int.toNat b1)))
 else none
 else none
 else none
 else none
 else none
theorem QbW{p0 p1 p2 p3 r}:Sm (Jo p0 p1 p2 p3) r->DCall Tryz.prog 166 [.sl (p0.map Qe.c),DI p1,DI p2,DI p3] [] (.own 0 0 r.length) [(0,aO 3 (r.map Qe.c))]:=by
 unfold Jo
 refine mk0 Tryz.func166 ?_
 refine ar ?_
 refine ar ?_
 refine ar ?_
 refine cT [0,3] [(9,λb1=>.ptr 0 0 0),(10,λb1=>DI b1)] [0] [] [] 1 (λz2=>?_) λb1=>?_
 refine au ?_
 refine lP [0,3] [(9,λs4=>.ptr 0 0 0),(10,λs4=>DI s4)] [0] [] [] 1 λs4 y5 hq5=>?_
 refine sq λK k=>?_
 refine xs (λh7=>?_) λh7=>?_
 refine xa λv8 hv8=>?_
 refine xd λv9 hv9=>?_
 have q0:=cS r0 (Qaz hv9)
 refine ar ?_
 refine xs (λh10=>?_) λh10=>?_
 refine da ?_
 exact wJ []
 refine cb ?_
 refine xo hq5 ?_
 exact wJ []
 refine ar ?_
 refine cb ?_
 refine xo hq5 ?_
 exact wJ []
 refine xd λv11 hv11=>?_
 have q0:=cG r0 (X6 hv11)
 refine ar ?_
 refine sq λK k=>?_
 refine xs (λh13=>?_) λh13=>?_
 refine xa λv14 hv14=>?_
 refine xd λv15 hv15=>?_
 replace q0:=cS r0 (Qaz hv15)
 refine ar ?_
 refine xs (λh16=>?_) λh16=>?_
 refine db ?_
 refine goA (Qk (c:=iC) ([p3]:List Int) i22.ok i3.ok) ?_
 refine au ?_
 refine xc λh17=>?_
 rcases Yi h17.2 with h18 | h18
 refine xc λh19=>?_
 refine ar ?_
 refine goA (m_slV (c:=Qe.c) (xs:=v11) (a:=b1) (b:=(v11.length:Int)) ⟨h17.1,h17.2,Vk _,.inr h18⟩ i31.ok i84.ok (.inr ⟨_,_,rfl,rfl⟩) (.inl ⟨rfl,rfl⟩) rfl rfl rfl rfl rfl) ?_
 refine goA (m_apW (c:=Qe.c) v11 (a:=b1) (b:=(v11.length:Int)) Oo h19 i31.ok i84.ok rfl rfl rfl rfl rfl rfl Od rfl (λ_=>rfl)) ?_
 refine au ?_
 refine xc λh20=>?_
 refine xc λh21=>?_
 refine xc λh22=>?_
 refine ar ?_
 refine goA (m_slV (c:=Qe.c) (xs:=v11) (a:=0) (b:=b1) ⟨Vk 0,h20.1,h20.2,.inl rfl⟩ i31.ok i84.ok (.inl ⟨rfl,rfl⟩) (.inr ⟨_,_,rfl,rfl⟩) rfl rfl rfl rfl rfl) ?_
 refine au ?_
 refine goA (Qk (c:=Qe.c) ([Qe.mk p1 p2 [p3]]:List Qe) i31.ok i84.ok) ?_
 refine goA (m_apV (c:=Qe.c) v11 [Qe.mk p1 p2 [p3]] (b:=b1) Oo h21 i31.ok i84.ok rfl rfl (.own rfl rfl Os (Qf (c:=Qe.c) (λ_=>rfl) _)) rfl rfl rfl Od rfl) ?_
 refine au ?_
 refine goA (QT (c:=Qe.c) ((v11.take (Int.toNat b1))++[Qe.mk p1 p2 [p3]]) ((v11.take (Int.toNat (v11.length:Int))).drop (Int.toNat b1)) h22 i31.ok i84.ok rfl rfl (.own rfl rfl Os (Qf (c:=Qe.c) (λ_=>rfl) _)) rfl) ?_
 refine au ?_
 exact ft [(0,6)]
 refine xc λh19=>?_
 refine ar ?_
 refine goA (m_slN (c:=Qe.c) (xs:=v11) (a:=b1) h18 i31.ok i84.ok ⟨_,_,rfl,rfl⟩ rfl rfl rfl rfl rfl) ?_
 refine goA (Qbi (c:=Qe.c) ((v11.take (Int.toNat (v11.length:Int))).drop (Int.toNat b1)) h19 i31.ok i84.ok rfl (.sl rfl (Qf (c:=Qe.c) (λ_=>rfl) _))) ?_
 refine au ?_
 refine xc λh20=>?_
 refine xc λh21=>?_
 refine xc λh22=>?_
 refine ar ?_
 refine goA (m_slV (c:=Qe.c) (xs:=v11) (a:=0) (b:=b1) ⟨Vk 0,h20.1,h20.2,.inl rfl⟩ i31.ok i84.ok (.inl ⟨rfl,rfl⟩) (.inr ⟨_,_,rfl,rfl⟩) rfl rfl rfl rfl rfl) ?_
 refine au ?_
 refine goA (Qk (c:=Qe.c) ([Qe.mk p1 p2 [p3]]:List Qe) i31.ok i84.ok) ?_
 refine goA (m_apV (c:=Qe.c) v11 [Qe.mk p1 p2 [p3]] (b:=b1) Oo h21 i31.ok i84.ok rfl rfl (.own rfl rfl Os (Qf (c:=Qe.c) (λ_=>rfl) _)) rfl rfl rfl Od rfl) ?_
 refine au ?_
 refine goA (QT (c:=Qe.c) ((v11.take (Int.toNat b1))++[Qe.mk p1 p2 [p3]]) ((v11.take (Int.toNat (v11.length:Int))).drop (Int.toNat b1)) h22 i31.ok i84.ok rfl rfl (.own rfl rfl Os (Qf (c:=Qe.c) (λ_=>rfl) _)) rfl) ?_
 refine au ?_
 exact ft [(0,6)]
 refine ca ?_
 refine xd λv23 hv23=>?_
 refine xa λv24 hv24=>?_
 replace q0:=cG r0 (Qbx hv23)
 refine ar ?_
 refine goA (Z2 (c:=Qe.c) hv24.h (Qe.mk v24.frm v24.to v23) i22.ok) ?_
 refine au ?_
 refine ar ?_
 exact ft [(0,1)]
 refine ar ?_
 refine db ?_
 refine goA (Qk (c:=iC) ([p3]:List Int) i22.ok i3.ok) ?_
 refine au ?_
 refine xc λh25=>?_
 rcases Yi h25.2 with h26 | h26
 refine xc λh27=>?_
 refine ar ?_
 refine goA (m_slV (c:=Qe.c) (xs:=v11) (a:=b1) (b:=(v11.length:Int)) ⟨h25.1,h25.2,Vk _,.inr h26⟩ i31.ok i84.ok (.inr ⟨_,_,rfl,rfl⟩) (.inl ⟨rfl,rfl⟩) rfl rfl rfl rfl rfl) ?_
 refine goA (m_apW (c:=Qe.c) v11 (a:=b1) (b:=(v11.length:Int)) Oo h27 i31.ok i84.ok rfl rfl rfl rfl rfl rfl Od rfl (λ_=>rfl)) ?_
 refine au ?_
 refine xc λh28=>?_
 refine xc λh29=>?_
 refine xc λh30=>?_
 refine ar ?_
 refine goA (m_slV (c:=Qe.c) (xs:=v11) (a:=0) (b:=b1) ⟨Vk 0,h28.1,h28.2,.inl rfl⟩ i31.ok i84.ok (.inl ⟨rfl,rfl⟩) (.inr ⟨_,_,rfl,rfl⟩) rfl rfl rfl rfl rfl) ?_
 refine au ?_
 refine goA (Qk (c:=Qe.c) ([Qe.mk p1 p2 [p3]]:List Qe) i31.ok i84.ok) ?_
 refine goA (m_apV (c:=Qe.c) v11 [Qe.mk p1 p2 [p3]] (b:=b1) Oo h29 i31.ok i84.ok rfl rfl (.own rfl rfl Os (Qf (c:=Qe.c) (λ_=>rfl) _)) rfl rfl rfl Od rfl) ?_
 refine au ?_
 refine goA (QT (c:=Qe.c) ((v11.take (Int.toNat b1))++[Qe.mk p1 p2 [p3]]) ((v11.take (Int.toNat (v11.length:Int))).drop (Int.toNat b1)) h30 i31.ok i84.ok rfl rfl (.own rfl rfl Os (Qf (c:=Qe.c) (λ_=>rfl) _)) rfl) ?_
 refine au ?_
 exact ft [(0,6)]
 refine xc λh27=>?_
 refine ar ?_
 refine goA (m_slN (c:=Qe.c) (xs:=v11) (a:=b1) h26 i31.ok i84.ok ⟨_,_,rfl,rfl⟩ rfl rfl rfl rfl rfl) ?_
 refine goA (Qbi (c:=Qe.c) ((v11.take (Int.toNat (v11.length:Int))).drop (Int.toNat b1)) h27 i31.ok i84.ok rfl (.sl rfl (Qf (c:=Qe.c) (λ_=>rfl) _))) ?_
 refine au ?_
 refine xc λh28=>?_
 refine xc λh29=>?_
 refine xc λh30=>?_
 refine ar ?_
 refine goA (m_slV (c:=Qe.c) (xs:=v11) (a:=0) (b:=b1) ⟨Vk 0,h28.1,h28.2,.inl rfl⟩ i31.ok i84.ok (.inl ⟨rfl,rfl⟩) (.inr ⟨_,_,rfl,rfl⟩) rfl rfl rfl rfl rfl) ?_
 refine au ?_
 refine goA (Qk (c:=Qe.c) ([Qe.mk p1 p2 [p3]]:List Qe) i31.ok i84.ok) ?_
 refine goA (m_apV (c:=Qe.c) v11 [Qe.mk p1 p2 [p3]] (b:=b1) Oo h29 i31.ok i84.ok rfl rfl (.own rfl rfl Os (Qf (c:=Qe.c) (λ_=>rfl) _)) rfl rfl rfl Od rfl) ?_
 refine au ?_
 refine goA (QT (c:=Qe.c) ((v11.take (Int.toNat b1))++[Qe.mk p1 p2 [p3]]) ((v11.take (Int.toNat (v11.length:Int))).drop (Int.toNat b1)) h30 i31.ok i84.ok rfl rfl (.own rfl rfl Os (Qf (c:=Qe.c) (λ_=>rfl) _)) rfl) ?_
 refine au ?_
 exact ft [(0,6)]
noncomputable def Zq(p0:List (List Inc))(p1:Int):Option (List (List Inc)×Int) :=
 (QS p0).bind λv1 =>
 bndR (Qi (λ(s5:Int) =>
 if s5 < (v1.length:Int) then
 (bndR ((at_ v1 s5).bind λv11 =>
 Qi (λ(s13:Int) =>
 if s13 < (v11.length:Int) then
 ((at_ v11 s13).bind λv18 =>
 if v18.seq=p1 then
 (if 0<=s13/\s13<=v11.length then
 if 0<=w64 (s13+1)/\w64 (s13+1)<=v11.length then
 if 0<=s13/\s13<=w64 (s13+1)/\w64 (s13+1)<=v11.length then
 if (v11.length:Int) * 40<=140737488355328/\(v11.length:Int)<=9223372036854775807 then
 some (.out (.inr (.out (.inr ((v1.set (Int.toNat s5) ((v11.take (Int.toNat s13))++((v11.take (Int.toNat (v11.length:Int))).drop (Int.toNat (w64 (s13+1))))),0))))))
 else none
 else none
 else none
 else none)
 else
 some (.go (w64 (s13+1))))
 else
 some (.out (.inl (())))) 0) λ(b9:Unit) =>
 some (.go (w64 (s5+1))))
 else
 some (.out (.inl (())))) 0) λ(b2:Unit) =>
 some ((([]:List (List Inc)),5))
theorem QaA{p0 p1 r}:Sm (Zq p0 p1) r->DCall Tryz.prog 79 [.sl (p0.map (lC Inc.c)),DI p1] [] (.tup [.own 0 0 r.1.length,DI r.2]) [(0,⟨1,false,false,r.1.map (lD 5 Inc.c)⟩)]:=by
 unfold Zq
 refine mk0 Tryz.func79 ?_
 refine ar ?_
 refine xd λv1 hv1=>?_
 have q0:=cG r0 (Zx hv1)
 refine ar ?_
 refine xx (Qt (Qb1 (s:=0) (xs:=v1) (cd:=(lD 5 Inc.c)) rfl (λ_=>rfl))) ?_
 refine cU [] [] [] [] [] 0 (λz3 hr3=>?_) λb2=>?_
 refine ar ?_
 refine lP [1,14] [(6,λs5=>.own 0 0 v1.length),(13,λs5=>.own 0 0 v1.length),(15,λs5=>DI s5)] [] [] [(0,λs5=>⟨1,false,false,v1.map (lD 5 Inc.c)⟩)] 1 λs5 y6 hq6=>?_
 refine ar ?_
 refine sq λK k=>?_
 refine xs (λh8=>?_) λh8=>?_
 refine ca ?_
 refine cU [1,6,13,14,15] [] [0] [] [] 1 (λz10 hr10=>?_) λb9=>?_
 refine au ?_
 refine xa λv11 hv11=>?_
 refine ar ?_
 refine goA (m_ldD (j:=0) (c:=Inc.c) (ys:=v11) hv11 [.own 1 0 v11.length] i46.ok rfl rfl) ?_
 refine au ?_
 refine ar ?_
 refine lP [1,6,7,13,14,15,21] [(8,λs13=>.own 1 0 v11.length),(20,λs13=>.own 1 0 v11.length),(22,λs13=>DI s13)] [1] [] [(0,λs13=>⟨1,false,false,(v1.map (lD 5 Inc.c)).set (Int.toNat s5) [.own 1 0 v11.length]⟩)] 2 λs13 y14 hq14=>?_
 refine ar ?_
 refine sq λK k=>?_
 refine xs (λh16=>?_) λh16=>?_
 refine ca ?_
 refine sq λK k=>?_
 refine au ?_
 refine xa λv18 hv18=>?_
 refine ar ?_
 refine ar ?_
 refine xs (λh19=>?_) λh19=>?_
 refine ca ?_
 refine xc λh20=>?_
 refine xc λh21=>?_
 rcases Yi h21.2 with h22 | h22
 refine xc λh23=>?_
 refine xc λh24=>?_
 refine ar ?_
 refine goA (m_slV (c:=Inc.c) (xs:=v11) (a:=0) (b:=s13) ⟨Vk 0,h20.1,h20.2,.inl rfl⟩ i46.ok i49.ok (.inl ⟨rfl,rfl⟩) (.inr ⟨_,_,rfl,rfl⟩) rfl rfl rfl rfl rfl) ?_
 refine au ?_
 refine goA (m_slV (c:=Inc.c) (xs:=v11) (a:=w64 (s13+1)) (b:=(v11.length:Int)) ⟨h21.1,h21.2,Vk _,.inr h22⟩ i46.ok i49.ok (.inr ⟨_,_,rfl,rfl⟩) (.inl ⟨rfl,rfl⟩) rfl rfl rfl rfl rfl) ?_
 refine goA (m_del (c:=Inc.c) v11 (a:=s13) (b:=w64 (s13+1)) h23 i46.ok i49.ok rfl rfl (by first | rfl | omega | (simp;done) | (simp;omega)) rfl (delV rfl rfl rfl ⟨Oo,h23.2.2⟩ rfl) h24) ?_
 refine goA ((m_iaO hv11.h i30.ok i46.ok rfl rfl rfl)) ?_
 refine goA (m_stR hv11 [.own 3 0 ((v11.take (Int.toNat s13))++((v11.take (Int.toNat (v11.length:Int))).drop (Int.toNat (w64 (s13+1))))).length] (.inr rfl) i46.ok) ?_
 refine au ?_
 refine xx (Qt (attR (s:=0) (t:=3) (j:=0) (c:=Inc.c) hv11 [.dp 5 (((v11.take (Int.toNat s13))++((v11.take (Int.toNat (v11.length:Int))).drop (Int.toNat (w64 (s13+1))))).map Inc.c)] rfl rfl rfl rfl rfl rfl)) ?_
 refine xx (Qt (tellR (s:=0) ((v11.take (Int.toNat s13))++((v11.take (Int.toNat (v11.length:Int))).drop (Int.toNat (w64 (s13+1))))) rfl rfl)) ?_
 refine ar ?_
 refine xo hq14 ?_
 refine xr hr10 ?_
 refine xo hq6 ?_
 refine xr hr3 ?_
 exact ftt r1
 refine xc λh23=>?_
 refine xc λh24=>?_
 refine ar ?_
 refine goA (m_slV (c:=Inc.c) (xs:=v11) (a:=0) (b:=s13) ⟨Vk 0,h20.1,h20.2,.inl rfl⟩ i46.ok i49.ok (.inl ⟨rfl,rfl⟩) (.inr ⟨_,_,rfl,rfl⟩) rfl rfl rfl rfl rfl) ?_
 refine au ?_
 refine goA (m_slN (c:=Inc.c) (xs:=v11) (a:=w64 (s13+1)) h22 i46.ok i49.ok ⟨_,_,rfl,rfl⟩ rfl rfl rfl rfl rfl) ?_
 refine goA (m_del (c:=Inc.c) v11 (a:=s13) (b:=w64 (s13+1)) h23 i46.ok i49.ok rfl rfl (by first | rfl | omega | (simp;done) | (simp;omega)) rfl rfl h24) ?_
 refine goA ((m_iaO hv11.h i30.ok i46.ok rfl rfl rfl)) ?_
 refine goA (m_stR hv11 [.own 3 0 ((v11.take (Int.toNat s13))++((v11.take (Int.toNat (v11.length:Int))).drop (Int.toNat (w64 (s13+1))))).length] (.inr rfl) i46.ok) ?_
 refine au ?_
 refine xx (Qt (attR (s:=0) (t:=3) (j:=0) (c:=Inc.c) hv11 [.dp 5 (((v11.take (Int.toNat s13))++((v11.take (Int.toNat (v11.length:Int))).drop (Int.toNat (w64 (s13+1))))).map Inc.c)] rfl rfl rfl rfl rfl rfl)) ?_
 refine xx (Qt (tellR (s:=0) ((v11.take (Int.toNat s13))++((v11.take (Int.toNat (v11.length:Int))).drop (Int.toNat (w64 (s13+1))))) rfl rfl)) ?_
 refine ar ?_
 refine xo hq14 ?_
 refine xr hr10 ?_
 refine xo hq6 ?_
 refine xr hr3 ?_
 exact ftt r1
 refine db ?_
 exact wJ []
 refine cb ?_
 refine xo hq14 ?_
 intro H;have e:=se H;subst e;exact ⟨_,rfl,ZJ.trans (attR (s:=0) (t:=1) (j:=0) (c:=Inc.c) hv11 [.dp 5 (v11.map Inc.c)] rfl rfl rfl rfl rfl rfl) (ZJ.trans (tellS (s:=0) hv11 rfl rfl) (wkJ []))⟩
 refine ar ?_
 exact wJ []
 refine cb ?_
 refine xo hq6 ?_
 exact wJ []
 refine ar ?_
 refine xx (QU 4 1 Od rfl) ?_
 refine xx (Qt (Qcp (cd:=(lD 5 Inc.c)) (s:=0) rfl)) ?_
 exact ftt r1
noncomputable def QR(p0:List (List Inc))(p1:Inc):Option (List (List Inc)×Int) :=
 if p1.belt < 0 then
 (some ((([]:List (List Inc)),1)))
 else
 if (p0.length:Int)<=p1.belt then
 (some ((([]:List (List Inc)),1)))
 else
 (QS p0).bind λv4 =>
 bndR ((at_ v4 p1.belt).bind λv7 =>
 Qi (λ(s9:Int) =>
 if s9 < (v7.length:Int) then
 ((at_ v7 s9).bind λv14 =>
 if v14.seq=p1.seq then
 (some (.out (.inr ((v4.set (Int.toNat p1.belt) (v7.set (Int.toNat s9) p1),0)))))
 else
 some (.go (w64 (s9+1))))
 else
 some (.out (.inl (())))) 0) λ(b5:Unit) =>
 some ((([]:List (List Inc)),5))
theorem X8{p0 p1 r}:Sm (QR p0 p1) r->DCall Tryz.prog 81 [.sl (p0.map (lC Inc.c)),.agg [DI p1.seq,DI p1.belt,DI p1.first,DI p1.last,DI p1.words]] [] (.tup [.own 0 0 r.1.length,DI r.2]) [(0,⟨1,false,false,r.1.map (lD 5 Inc.c)⟩)]:=by
 unfold QR
 refine mk0 Tryz.func81 ?_
 refine ar ?_
 refine sq λK k=>?_
 refine xs (λh2=>?_) λh2=>?_
 refine ar ?_
 refine da ?_
 refine xx (QU 4 1 Od rfl) ?_
 refine xx (Qt (Qcp (cd:=(lD 5 Inc.c)) (s:=1) rfl)) ?_
 exact ftt [(0,1)]
 refine ar ?_
 refine xs (λh3=>?_) λh3=>?_
 refine da ?_
 refine xx (QU 4 1 Od rfl) ?_
 refine xx (Qt (Qcp (cd:=(lD 5 Inc.c)) (s:=1) rfl)) ?_
 exact ftt [(0,1)]
 refine cb ?_
 refine xd λv4 hv4=>?_
 have q0:=cG r0 (Zx hv4)
 refine ar ?_
 refine xx (Qt (Qb1 (s:=1) (xs:=v4) (cd:=(lD 5 Inc.c)) rfl (λ_=>rfl))) ?_
 refine cU [] [] [] [] [] 0 (λz6 hr6=>?_) λb5=>?_
 refine xa λv7 hv7=>?_
 refine ar ?_
 refine goA (m_ldD (j:=0) (c:=Inc.c) (ys:=v7) hv7 [.own 2 0 v7.length] i46.ok rfl rfl) ?_
 refine au ?_
 refine lP [26] [(3,λs9=>.ptr 0 0 0),(6,λs9=>.own 1 0 v4.length),(25,λs9=>.own 2 0 v7.length),(27,λs9=>DI s9)] [0,2] [] [(1,λs9=>⟨1,false,false,(v4.map (lD 5 Inc.c)).set (Int.toNat p1.belt) [.own 2 0 v7.length]⟩)] 3 λs9 y10 hq10=>?_
 refine ar ?_
 refine sq λK k=>?_
 refine xs (λh12=>?_) λh12=>?_
 refine ca ?_
 refine sq λK k=>?_
 refine au ?_
 refine xa λv14 hv14=>?_
 refine ar ?_
 refine ar ?_
 refine xs (λh15=>?_) λh15=>?_
 refine da ?_
 refine goA ((m_iaO hv7.h i30.ok i46.ok rfl rfl rfl)) ?_
 refine goA (m_ldR hv7 i46.ok) ?_
 refine au ?_
 refine goA (Z2 (c:=Inc.c) hv14.h p1 i49.ok) ?_
 refine au ?_
 refine xx (Qt (attR (s:=1) (t:=2) (j:=0) (c:=Inc.c) hv7 [.dp 5 ((v7.set (Int.toNat s9) p1).map Inc.c)] rfl rfl rfl (by first | omega | (simp;done) | (simp;omega)) rfl rfl)) ?_
 refine xx (Qt (tellR (s:=1) (v7.set (Int.toNat s9) p1) rfl rfl)) ?_
 refine ar ?_
 refine xo hq10 ?_
 refine xr hr6 ?_
 exact ftt [(0,1)]
 refine db ?_
 exact wJ []
 refine cb ?_
 refine xo hq10 ?_
 intro H;have e:=se H;subst e;exact ⟨_,rfl,ZJ.trans (attR (s:=1) (t:=2) (j:=0) (c:=Inc.c) hv7 [.dp 5 (v7.map Inc.c)] rfl rfl rfl rfl rfl rfl) (ZJ.trans (tellS (s:=1) hv7 rfl rfl) (wkJ []))⟩
 refine ar ?_
 refine xx (QU 4 1 Od rfl) ?_
 refine xx (Qt (Qcp (cd:=(lD 5 Inc.c)) (s:=0) rfl)) ?_
 exact ftt r1
noncomputable def Z9(p0:List (List Inc))(p1:Inc):Option (List (List Inc)×Int) :=
 if p1.belt < 0 then
 (some ((([]:List (List Inc)),1)))
 else
 if (p0.length:Int)<=p1.belt then
 (some ((([]:List (List Inc)),1)))
 else
 (QI p0 p1.belt).bind λv5 =>
 if v5.2=true then
 (if p1.seq<=v5.1.seq then
 (some ((([]:List (List Inc)),5)))
 else
 (QS p0).bind λv8 =>
 (at_ v8 p1.belt).bind λv9 =>
 if ((v9.length:Int)+[p1].length) * 40<=140737488355328/\(v9.length:Int)+[p1].length<=9223372036854775807 then
 some ((v8.set (Int.toNat p1.belt) (v9++[p1]),0))
 else none)
 else
 (QS p0).bind λv11 =>
 (at_ v11 p1.belt).bind λv12 =>
 if ((v12.length:Int)+[p1].length) * 40<=140737488355328/\(v12.length:Int)+[p1].length<=9223372036854775807 then
 some ((v11.set (Int.toNat p1.belt) (v12++[p1]),0))
 else none
theorem Qal{p0 p1 r}:Sm (Z9 p0 p1) r->DCall Tryz.prog 82 [.sl (p0.map (lC Inc.c)),.agg [DI p1.seq,DI p1.belt,DI p1.first,DI p1.last,DI p1.words]] [] (.tup [.own 0 0 r.1.length,DI r.2]) [(0,⟨1,false,false,r.1.map (lD 5 Inc.c)⟩)]:=by
 unfold Z9
 refine mk0 Tryz.func82 ?_
 refine ar ?_
 refine sq λK k=>?_
 refine xs (λh2=>?_) λh2=>?_
 refine ar ?_
 refine da ?_
 refine xx (QU 4 1 Od rfl) ?_
 refine xx (Qt (Qcp (cd:=(lD 5 Inc.c)) (s:=1) rfl)) ?_
 exact ftt [(0,1)]
 refine ar ?_
 refine xs (λh3=>?_) λh3=>?_
 refine da ?_
 refine xx (QU 4 1 Od rfl) ?_
 refine xx (Qt (Qcp (cd:=(lD 5 Inc.c)) (s:=1) rfl)) ?_
 exact ftt [(0,1)]
 refine cb ?_
 refine sq λK k=>?_
 refine xd λv5 hv5=>?_
 have q0:=cS r0 (ZE hv5)
 refine ar ?_
 refine xs (λh6=>?_) λh6=>?_
 refine ar ?_
 refine xs (λh7=>?_) λh7=>?_
 refine da ?_
 refine xx (QU 4 1 Od rfl) ?_
 refine xx (Qt (Qcp (cd:=(lD 5 Inc.c)) (s:=2) rfl)) ?_
 exact ftt [(0,2)]
 refine cb ?_
 refine xd λv8 hv8=>?_
 replace q0:=cG r0 (Zx hv8)
 refine ar ?_
 refine xx (Qt (Qb1 (s:=2) (xs:=v8) (cd:=(lD 5 Inc.c)) rfl (λ_=>rfl))) ?_
 refine xa λv9 hv9=>?_
 refine xc λh10=>?_
 refine ar ?_
 refine goA (m_ldD (j:=0) (c:=Inc.c) (ys:=v9) hv9 [.own 3 0 v9.length] i46.ok rfl rfl) ?_
 refine au ?_
 refine goA (Qk (c:=Inc.c) ([p1]:List Inc) i46.ok i49.ok) ?_
 refine goA (QT (c:=Inc.c) v9 [p1] h10 i46.ok i49.ok rfl rfl (.own rfl rfl Os (Qf (c:=Inc.c) (λ_=>rfl) _)) rfl) ?_
 refine goA ((m_iaO hv9.h i30.ok i46.ok rfl rfl rfl)) ?_
 refine goA (m_stR hv9 [.own 5 0 (v9++[p1]).length] (.inr rfl) i46.ok) ?_
 refine au ?_
 refine xx (Qt (attR (s:=2) (t:=5) (j:=0) (c:=Inc.c) hv9 [.dp 5 ((v9++[p1]).map Inc.c)] rfl rfl rfl rfl rfl rfl)) ?_
 refine xx (Qt (tellR (s:=2) (v9++[p1]) rfl rfl)) ?_
 refine ar ?_
 exact ftt [(0,2)]
 refine ar ?_
 refine cb ?_
 refine xd λv11 hv11=>?_
 replace q0:=cG r0 (Zx hv11)
 refine ar ?_
 refine xx (Qt (Qb1 (s:=2) (xs:=v11) (cd:=(lD 5 Inc.c)) rfl (λ_=>rfl))) ?_
 refine xa λv12 hv12=>?_
 refine xc λh13=>?_
 refine ar ?_
 refine goA (m_ldD (j:=0) (c:=Inc.c) (ys:=v12) hv12 [.own 3 0 v12.length] i46.ok rfl rfl) ?_
 refine au ?_
 refine goA (Qk (c:=Inc.c) ([p1]:List Inc) i46.ok i49.ok) ?_
 refine goA (QT (c:=Inc.c) v12 [p1] h13 i46.ok i49.ok rfl rfl (.own rfl rfl Os (Qf (c:=Inc.c) (λ_=>rfl) _)) rfl) ?_
 refine goA ((m_iaO hv12.h i30.ok i46.ok rfl rfl rfl)) ?_
 refine goA (m_stR hv12 [.own 5 0 (v12++[p1]).length] (.inr rfl) i46.ok) ?_
 refine au ?_
 refine xx (Qt (attR (s:=2) (t:=5) (j:=0) (c:=Inc.c) hv12 [.dp 5 ((v12++[p1]).map Inc.c)] rfl rfl rfl rfl rfl rfl)) ?_
 refine xx (Qt (tellR (s:=2) (v12++[p1]) rfl rfl)) ?_
 refine ar ?_
 exact ftt [(0,2)]
noncomputable def XP(p0:Sp)(p1:Int)(p2:Int)(p3:Int):Option (Int×List Int) :=
 (Xc p2 p3).bind λv1 =>
 if v1.2=0 then
 ((QB p0 p1 (w64 (p2+p3))).bind λv5 =>
 if v5.2=0 then
 ((at_ p0.ws p1).bind λv7 =>
 (Qi (λ(s11:List Int×Int) =>
 if s11.2<=(w64 (p2+p3)) then
 ((QB (Sp.mk p0.sh s11.1 p0.fs) p1 s11.2).bind λv16 =>
 (at_ s11.1 v16.1).bind λv17 =>
 some (.go ((s11.1.set (Int.toNat v16.1) 0,w64 (s11.2+1)))))
 else
 some (.out (s11.1))) (p0.ws.set (Int.toNat p1) v1.1,1)).bind λ(b8:List Int) =>
 some ((0,b8)))
 else
 some ((v5.2,p0.ws)))
 else
 some ((v1.2,p0.ws))
theorem QeR{p0 p1 p2 p3 r}:Sm (XP p0 p1 p2 p3) r->DCall Tryz.prog 208 [.agg [DI p0.sh,.own 0 0 p0.ws.length,.sl (p0.fs.map frC)],DI p1,DI p2,DI p3] [(0,aO 1 (p0.ws.map uC))] (DI r.1) [(0,aO 1 (r.2.map uC))]:=by
 unfold XP
 refine mk0 Tryz.func208 ?_
 refine ar ?_
 refine xd λv1 hv1=>?_
 have q0:=cS r0 (J0 hv1)
 refine ar ?_
 refine sq λK k=>?_
 refine ar ?_
 refine xs (λh3=>?_) λh3=>?_
 refine cb ?_
 refine sq λK k=>?_
 refine xd λv5 hv5=>?_
 replace q0:=cS r0 (QG hv5)
 refine ar ?_
 refine ar ?_
 refine xs (λh6=>?_) λh6=>?_
 refine cb ?_
 refine xa λv7 hv7=>?_
 refine ar ?_
 refine goA (Z2 (c:=uC) hv7.h v1.1 i62.ok) ?_
 refine au ?_
 refine cT [] [] [] [] [(0,λb8=>aO 1 (b8.map uC))] 1 (λz9=>?_) λb8=>?_
 refine ar ?_
 refine lP [1,2,3] [(4,λs11=>.ptr 1 0 0),(13,λs11=>DI s11.2)] [] [(1,[(1,λs11=>.own 0 0 s11.1.length)])] [(0,λs11=>aO 1 (s11.1.map uC))] 2 λs11 y12 hq12=>?_
 refine sq λK k=>?_
 refine ar ?_
 refine xs (λh14=>?_) λh14=>?_
 refine ca ?_
 refine sq λK k=>?_
 refine au ?_
 refine xd λv16 hv16=>?_
 replace q0:=cS r0 (QG hv16)
 refine ar ?_
 refine xa λv17 hv17=>?_
 refine ar ?_
 refine goA (Z2 (c:=uC) hv17.h 0 i62.ok) ?_
 refine au ?_
 refine ar ?_
 exact wJ []
 refine cb ?_
 refine xo hq12 ?_
 exact wJ []
 refine ar ?_
 exact ft r1
 refine da ?_
 exact ft r1
 refine da ?_
 exact ft r1
noncomputable def XH(p0:Rts)(p1:Int):Option (Rts×Int×Int) :=
 (Xl p0).bind λv2 =>
 if v2=true then
 (bndR (Qi (λ(s7:Int) =>
 if s7 < (p0.used.length:Int) then
 ((at_ p0.used s7).bind λv12 =>
 if v12=true then
 (some (.go (w64 (s7+1))))
 else
 (Zz p0).bind λv14 =>
 (at_ v14.used s7).bind λv15 =>
 (at_ v14.refs s7).bind λv16 =>
 some (.out (.inr ((Rts.mk (v14.used.set (Int.toNat s7) true) (v14.refs.set (Int.toNat s7) p1),w64 (s7+1),0)))))
 else
 some (.out (.inl (())))) 0) λ(b4:Unit) =>
 some ((Rts.mk ([]:List Bool) ([]:List Int),0,15)))
 else
 some ((Rts.mk ([]:List Bool) ([]:List Int),0,1))
theorem Qbv{p0 p1 r}:Sm (XH p0 p1) r->DCall Tryz.prog 175 [.agg [.sl (p0.used.map bC),.sl (p0.refs.map uC)],DU p1] [] (.tup [.agg [.own 0 0 r.1.used.length,.own 1 0 r.1.refs.length],DI r.2.1,DI r.2.2]) [(0,aO 1 (r.1.used.map bC)),(1,aO 1 (r.1.refs.map uC))]:=by
 unfold XH
 refine mk0 Tryz.func175 ?_
 refine ar ?_
 refine sq λK k=>?_
 refine xd λv2 hv2=>?_
 have q0:=cS r0 (Qa2 hv2)
 refine ar ?_
 refine xs (λh3=>?_) λh3=>?_
 refine cb ?_
 refine cU [] [(4,λb4=>.ptr 1 0 0)] [1] [] [] 2 (λz5 hr5=>?_) λb4=>?_
 refine ar ?_
 refine lP [1,15,16] [(2,λs7=>.ptr 0 0 0),(4,λs7=>.ptr 1 0 0),(17,λs7=>DI s7)] [0,1] [] [] 2 λs7 y8 hq8=>?_
 refine ar ?_
 refine sq λK k=>?_
 refine xs (λh10=>?_) λh10=>?_
 refine ca ?_
 refine sq λK k=>?_
 refine au ?_
 refine xa λv12 hv12=>?_
 refine ar ?_
 refine ar ?_
 refine xs (λh13=>?_) λh13=>?_
 refine db ?_
 exact wJ []
 refine ca ?_
 refine xd λv14 hv14=>?_
 replace q0:=cS r0 (X5 hv14)
 refine ar ?_
 refine xa λv15 hv15=>?_
 refine xa λv16 hv16=>?_
 refine ar ?_
 refine goA (Z2 (c:=bC) hv15.h true i4.ok) ?_
 refine au ?_
 refine goA (Z2 (c:=uC) hv16.h p1 i62.ok) ?_
 refine au ?_
 refine ar ?_
 refine xo hq8 ?_
 refine xr hr5 ?_
 exact fwtt [(0,2),(1,3)]
 refine cb ?_
 refine xo hq8 ?_
 exact wJ []
 refine ar ?_
 refine xx (Qg 1 0 1 Od rfl rfl) ?_
 refine xx (Qg 1 1 1 Od rfl rfl) ?_
 exact fwtt [(0,2),(1,3)]
 refine da ?_
 refine xx (Qg 1 0 1 Od rfl rfl) ?_
 refine xx (Qg 1 1 1 Od rfl rfl) ?_
 exact fwtt [(0,2),(1,3)]
noncomputable def ZL(p0:Hp):Option Int :=
 (X7 p0.belts).bind λv1 =>
 some (v1)
theorem Qcj{p0 r}:Sm (ZL p0) r->DCall Tryz.prog 137 [.agg [.lit (.string p0.config.name),.sl (p0.config.rules.map Rul.c),DI p0.config.full,DI p0.space.sh,.sl (p0.space.ws.map uC),.sl (p0.space.fs.map frC),.sl (p0.belts.map (lC Inc.c)),DI p0.seq,.sl (p0.sets.map Qe.c),.sl (p0.roots.used.map bC),.sl (p0.roots.refs.map uC),DI p0.since,DI p0.stats.allocated,DI p0.stats.objects,DI p0.stats.collections,DI p0.stats.steps,DI p0.stats.rounds,DI p0.stats.condemned,DI p0.stats.copied,DI p0.stats.entries,DI p0.stats.work,DB p0.dead]] [] (DI r) []:=by
 unfold ZL
 refine mk0 Tryz.func137 ?_
 refine ar ?_
 refine xd λv1 hv1=>?_
 have q0:=cS r0 (Qdy hv1)
 refine ar ?_
 exact ft r0
noncomputable def X3(p0:Rts)(p1:Int):Option Int :=
 (Xl p0).bind λv2 =>
 if v2=true then
 (if p1 < 1 then
 (some (14))
 else
 if 32 < p1 then
 (some (14))
 else
 (at_ p0.used (w64 (p1 - 1))).bind λv7 =>
 if v7=true then
 (some (0))
 else
 some (14))
 else
 some (1)
theorem Qdv{p0 p1 r}:Sm (X3 p0 p1) r->DCall Tryz.prog 178 [.agg [.sl (p0.used.map bC),.sl (p0.refs.map uC)],DI p1] [] (DI r) []:=by
 unfold X3
 refine mk0 Tryz.func178 ?_
 refine ar ?_
 refine sq λK k=>?_
 refine xd λv2 hv2=>?_
 have q0:=cS r0 (Qa2 hv2)
 refine ar ?_
 refine xs (λh3=>?_) λh3=>?_
 refine cb ?_
 refine sq λK k=>?_
 refine xs (λh5=>?_) λh5=>?_
 refine ar ?_
 refine da ?_
 exact ft r0
 refine xs (λh6=>?_) λh6=>?_
 refine ar ?_
 refine da ?_
 exact ft r0
 refine xa λv7 hv7=>?_
 refine ar ?_
 refine xs (λh8=>?_) λh8=>?_
 refine db ?_
 exact ft r0
 refine da ?_
 exact ft r0
 refine da ?_
 exact ft r0
noncomputable def Ju(p0:Gra):Option Int :=
 ((XX p0).bind λv3 =>
 Qi (λ(s5:Int×Int) =>
 if s5.2 < (v3.length:Int) then
 ((at_ v3 s5.2).bind λv10 =>
 (at_ p0.nodes v10).bind λv11 =>
 some (.go ((w64 (s5.1+(w64 ((w64 (1+(v11.refs.length:Int)))+(v11.data.length:Int)))),w64 (s5.2+1)))))
 else
 some (.out (s5.1))) (0,0)).bind λ(b1:Int) =>
 some (b1)
theorem QeI{p0 r}:Sm (Ju p0) r->DCall Tryz.prog 146 [.agg [.sl (p0.nodes.map Nod.c),.sl (p0.used.map bC),.sl (p0.roots.map iC)]] [] (DI r) []:=by
 unfold Ju
 refine mk0 Tryz.func146 ?_
 refine ar ?_
 refine ar ?_
 refine cT [] [(3,λb1=>DI b1)] [] [] [] 0 (λz2=>?_) λb1=>?_
 refine xd λv3 hv3=>?_
 have q0:=cS r0 (Qdp hv3)
 refine ar ?_
 refine lP [8] [(1,λs5=>.ptr 0 0 0),(3,λs5=>DI s5.1),(7,λs5=>.own 1 0 v3.length),(9,λs5=>DI s5.2)] [0,1] [] [] 2 λs5 y6 hq6=>?_
 refine ar ?_
 refine sq λK k=>?_
 refine xs (λh8=>?_) λh8=>?_
 refine ca ?_
 refine sq λK k=>?_
 refine au ?_
 refine xa λv10 hv10=>?_
 refine ar ?_
 refine xa λv11 hv11=>?_
 refine ar ?_
 refine ar ?_
 exact wJ []
 refine cb ?_
 refine xo hq6 ?_
 exact wJ []
 refine ar ?_
 exact ft r0
noncomputable def Xh(p0:Sp)(p1:List Inc):Option (List Int) :=
 ((XE p0 p1).bind λv3 =>
 Qi (λ(s6:List Int×Int) =>
 if s6.2=0 then
 (some (.out (s6.1)))
 else
 (QL s6.2).bind λv11 =>
 if ((s6.1.length:Int)+[v11].length) * 8<=140737488355328/\(s6.1.length:Int)+[v11].length<=9223372036854775807 then
 some (.go ((s6.1++[v11],bits .and .u64 s6.2 (wu (s6.2 - 1)))))
 else none) (([]:List Int),v3)).bind λ(b1:List Int) =>
 some (b1)
theorem Qa0{p0 p1 r}:Sm (Xh p0 p1) r->DCall Tryz.prog 14 [.agg [DI p0.sh,.sl (p0.ws.map uC),.sl (p0.fs.map frC)],.sl (p1.map Inc.c)] [] (.own 0 0 r.length) [(0,aO 1 (r.map iC))]:=by
 unfold Xh
 refine mk0 Tryz.func14 ?_
 refine ar ?_
 refine ar ?_
 refine cT [] [(5,λb1=>.own 1 0 b1.length)] [] [] [(1,λb1=>aO 1 (b1.map iC))] 2 (λz2=>?_) λb1=>?_
 refine xd λv3 hv3=>?_
 have q0:=cS r0 (QaV hv3)
 refine ar ?_
 refine xx (QU 5 1 Od rfl) ?_
 refine lP [] [(5,λs6=>.own 1 0 s6.1.length),(6,λs6=>DU s6.2)] [] [] [(1,λs6=>aO 1 (s6.1.map iC))] 2 λs6 y7 hq7=>?_
 refine sq λK k=>?_
 refine ar ?_
 refine xs (λh9=>?_) λh9=>?_
 refine cb ?_
 refine xo hq7 ?_
 exact wJ []
 refine ca ?_
 refine sq λK k=>?_
 refine au ?_
 refine xd λv11 hv11=>?_
 refine xc λh12=>?_
 replace q0:=cS r0 (Qam hv11)
 refine ar ?_
 refine goA (Qk (c:=iC) ([v11]:List Int) i22.ok i3.ok) ?_
 refine goA (QT (c:=iC) s6.1 [v11] h12 i22.ok i3.ok rfl rfl (.own rfl rfl Os (Qf (c:=iC) (λ_=>rfl) _)) rfl) ?_
 refine au ?_
 refine ar ?_
 exact wJ [(1,3)]
 refine ar ?_
 exact ft [(0,1)]
noncomputable def Xq(p0:Sp)(p1:Rts)(p2:List Inc):Option (List Int) :=
 (XE p0 p2).bind λv1 =>
 (Qi (λ(s6:List Int×Int) =>
 if s6.2 < (p1.refs.length:Int) then
 ((at_ p1.refs s6.2).bind λv11 =>
 if s6.2 < (p1.used.length:Int) then
 ((at_ p1.used s6.2).bind λv13 =>
 if v13=true then
 ((Xg p0 v1 v11).bind λv15 =>
 if v15=true then
 (if ((s6.1.length:Int)+[w64 (s6.2+1)].length) * 8<=140737488355328/\(s6.1.length:Int)+[w64 (s6.2+1)].length<=9223372036854775807 then
 some (.go ((s6.1++[w64 (s6.2+1)],w64 (s6.2+1))))
 else none)
 else
 some (.go ((s6.1,w64 (s6.2+1)))))
 else
 some (.go ((s6.1,w64 (s6.2+1)))))
 else
 some (.go ((s6.1,w64 (s6.2+1)))))
 else
 some (.out (s6.1))) (([]:List Int),0)).bind λ(b2:List Int) =>
 some (b2)
theorem Qc6{p0 p1 p2 r}:Sm (Xq p0 p1 p2) r->DCall Tryz.prog 15 [.agg [DI p0.sh,.sl (p0.ws.map uC),.sl (p0.fs.map frC)],.agg [.sl (p1.used.map bC),.sl (p1.refs.map uC)],.sl (p2.map Inc.c)] [] (.own 0 0 r.length) [(0,aO 1 (r.map iC))]:=by
 unfold Xq
 refine mk0 Tryz.func15 ?_
 refine ar ?_
 refine xd λv1 hv1=>?_
 have q0:=cS r0 (QaV hv1)
 refine ar ?_
 refine ar ?_
 refine cT [] [(8,λb2=>.own 2 0 b2.length)] [] [] [(2,λb2=>aO 1 (b2.map iC))] 3 (λz3=>?_) λb2=>?_
 refine ar ?_
 refine xx (QU 8 1 Od rfl) ?_
 refine lP [7,15,16] [(3,λs6=>.ptr 0 0 0),(4,λs6=>.ptr 1 0 0),(8,λs6=>.own 2 0 s6.1.length),(17,λs6=>DI s6.2)] [0,1] [] [(2,λs6=>aO 1 (s6.1.map iC))] 3 λs6 y7 hq7=>?_
 refine ar ?_
 refine sq λK k=>?_
 refine xs (λh9=>?_) λh9=>?_
 refine ca ?_
 refine sq λK k=>?_
 refine au ?_
 refine xa λv11 hv11=>?_
 refine ar ?_
 refine xs (λh12=>?_) λh12=>?_
 refine xa λv13 hv13=>?_
 refine xs (λh14=>?_) λh14=>?_
 refine xd λv15 hv15=>?_
 replace q0:=cS r0 (QaZ hv15)
 refine ar ?_
 refine xs (λh16=>?_) λh16=>?_
 refine ca ?_
 refine xc λh17=>?_
 refine ar ?_
 refine goA (Qk (c:=iC) ([w64 (s6.2+1)]:List Int) i22.ok i3.ok) ?_
 refine goA (QT (c:=iC) s6.1 [w64 (s6.2+1)] h17 i22.ok i3.ok rfl rfl (.own rfl rfl Os (Qf (c:=iC) (λ_=>rfl) _)) rfl) ?_
 refine au ?_
 refine ar ?_
 exact wJ [(2,4)]
 refine db ?_
 exact wJ []
 refine ar ?_
 refine db ?_
 exact wJ []
 refine ar ?_
 refine db ?_
 exact wJ []
 refine cb ?_
 refine xo hq7 ?_
 exact wJ []
 refine ar ?_
 exact ft [(0,2)]
noncomputable def ZD(p0:Sp)(p1:List Inc)(p2:Int):Option Bool :=
 (XE p0 p1).bind λv1 =>
 (Xg p0 v1 p2).bind λv2 =>
 some (v2)
theorem Ze{p0 p1 p2 r}:Sm (ZD p0 p1 p2) r->DCall Tryz.prog 20 [.agg [DI p0.sh,.sl (p0.ws.map uC),.sl (p0.fs.map frC)],.sl (p1.map Inc.c),DU p2] [] (DB r) []:=by
 unfold ZD
 refine mk0 Tryz.func20 ?_
 refine ar ?_
 refine xd λv1 hv1=>?_
 refine xd λv2 hv2=>?_
 have q0:=cS r0 (QaV hv1)
 have q1:=cS r0 (QaZ hv2)
 refine ar ?_
 exact ft r0
end Go.Proofs.YthpnlnjdmlbnaaaGreatDoor
