/-
  Lemmas for the theorem vofmatrices_holds, part 30 of 32.
-/
import Derived.Test.YtidfgdchcpmnfaaGreatOm06
import Derived.Test.YtidfgdchcpmnfaaGreatOm20
import Derived.Test.YtidfgdchcpmnfaaGreatOm23
import Derived.Test.YtidfgdchcpmnfaaGreatOm25
import Derived.Test.YtidfgdchcpmnfaaGreatOm26
import Derived.Test.YtidfgdchcpmnfaaGreatOm29
namespace Go.Proofs.YtidfgdchcpmnfaaGreat
open Go.RowKit
set_option maxRecDepth 100000
set_option maxHeartbeats 4000000
set_option linter.unusedSimpArgs false
set_option linter.unusedVariables false
theorem KN {l:List Nat} (k:Nat):val (l.drop k)<=val l:=by
 have e:=val_append (l.take k) (l.drop k)
 rw[List.take_append_drop] at e
 have h1:1<=BB ^ (l.take k).length:=Nat.pow_pos iP
 have h2:val (l.drop k)<=BB ^ (l.take k).length*val (l.drop k):=Nat.le_mul_of_pos_left _ h1
 omega
theorem UA (x:Int) (h0:-9223372036854775808<=x) (h1:x<=9223372036854775807):isz x<=999999999 :=
 Nat.le_trans (uS (k:=3) (by rw[bG];omega)) (by omega)
theorem rP {z:Int} (h0:-9223372036854775808<=z) (h1:z<=9223372036854775807):IntKind.i64.wrap z=z:=by simp[IntKind.wrap,IntKind.bits,IntKind.signed];omega
theorem b7k {x:Int} (h:-9223372036854775808<=x/\x<=9223372036854775807):aG x=x/\aN x=true:=by
 unfold aG aN
 rw[if_pos (by omega)]
 exact⟨rfl,by simp;omega⟩
theorem a9b {x:Int} (h:¬ (-9223372036854775808<=x/\x<=9223372036854775807)):aG x=0/\aN x=false:=by
 unfold aG aN
 rw[if_neg (by omega)]
 exact⟨rfl,by simp;omega⟩
theorem a2W (v:Value) (x:Int) (w:World) (hv:Raw w v x) (hl:isz x<=999999999) (h:x < -9223372036854775808) :
  Calls Tryz.prog 136 #[v] w fun e W'=>e=.returned (.tuple #[.int .i64 (aG x),.bool (aN x)])/\Below w.heap.size w W':=by
 obtain⟨b,p,n,c,rfl⟩:=hv.form
 have hl1:isz x<=1000000000:=by omega
 have hm1:isz (-9223372036854775808)<=999999999:=UA _ (by omega) (by omega)
 have hm2:isz 9223372036854775807<=999999999:=UA _ (by omega) (by omega)
 have HF:=Lib.hid (a9b (x:=x) (by omega))
 have d1:dB x (-9223372036854775808)=-1:=by unfold dB;rw[if_pos (by omega)]
 have HC1:=Lib.hid d1
 have HC2:=Lib.hid (show dB x 9223372036854775807=dB x 9223372036854775807 from rfl)
 clear d1 h
 have aY:Below w.heap.size w w:=Below.refl _ _
 go_enter Tryz.func136,Tryz.ntmps136
 go_wp2_with fail
 obtain⟨hA1,b0⟩:=bx1 w rfl [.bool b,.slice p n c] 28
 have c0:=(hv.below hA1)
 (with_reducible refine(fB _ (x) _ c0 hl1).mono ?_)
 rintro e w1 ⟨v1,rfl,hi1,hb1⟩
 obtain⟨g1,p1,n1,c1,rfl⟩:=hi1.form
 obtain rfl:n1=(dig x.natAbs).length:=hi1.len
 have hf1:=Lib.hid (bU.flag hi1)
 have bF:=(b0.to hb1)
 obtain⟨h0,l0,j0,m0⟩:=bF.cf2
 go_wp2_with fail
 (with_reducible refine(qW _ _ (by omega) (by omega)).mono ?_)
 rintro e w2 ⟨v2,rfl,hi2,hb2⟩
 obtain⟨g2,p2,n2,c2,rfl⟩:=hi2.form
 go_wp2_with fail
 (with_reducible refine(qW _ _ (by omega) (by omega)).mono ?_)
 rintro e w3 ⟨v3,rfl,hi3,hb3⟩
 obtain⟨g3,p3,n3,c3,rfl⟩:=hi3.form
 have gV:=(((bF.store2 (.bool g1) (.slice p1 (dig x.natAbs).length c1)).to hb2).to hb3)
 obtain⟨i0,k0⟩:=gV.cs2
 have n0:=(gV).1
 obtain⟨hA2,p0⟩:=bx1 w3 rfl [.bool false,.slice none 0 0] 28
 have o0:=((gV.to hA2)).1
 go_wp2_with fail
 have f0:=(((hi1.aF bF rfl rfl (.bool g1) (.slice p1 (dig x.natAbs).length c1)).below hb2).below hb3)
 obtain⟨hA3,q0,r0⟩:=bx2 w3 rfl [.bool g2,.slice p2 n2 c2] 28 [.bool g3,.slice p3 n3 c3] 28
 have d0:=(f0.below hA3).raw
 have g0:=(hi2.below hb3)
 have e0:=(g0.below hA3).raw
 (with_reducible refine(lM _ _ (x) ((-9223372036854775808)) _ d0 e0 hl hm1).mono ?_)
 rw[HC1.out]
 rintro e w4 ⟨rfl,hb4⟩
 have a0:=(Below.tr (Below.tr (Below.tr (Below.tr (Below.aF (Below.tr (Below.tr aY hA1) hb1) (b:=w.heap.size) (by omega) (.bool g1) (.slice p1 (dig x.natAbs).length c1)) hb2) hb3) hA3) hb4)
 go_wp2_with fail
 go_ret2
 exact⟨by rw[HF.out.1,HF.out.2];rfl,a0⟩
theorem a1d (v:Value) (x:Int) (w:World) (hv:Raw w v x) (hl:isz x<=999999999) (h:9223372036854775807<x) :
  Calls Tryz.prog 136 #[v] w fun e W'=>e=.returned (.tuple #[.int .i64 (aG x),.bool (aN x)])/\Below w.heap.size w W':=by
 obtain⟨b,p,n,c,rfl⟩:=hv.form
 have hl1:isz x<=1000000000:=by omega
 have hm1:isz (-9223372036854775808)<=999999999:=UA _ (by omega) (by omega)
 have hm2:isz 9223372036854775807<=999999999:=UA _ (by omega) (by omega)
 have HF:=Lib.hid (a9b (x:=x) (by omega))
 have HC1:Hid (dB x (-9223372036854775808)=1):=by unfold Hid dB;rw[if_neg (by omega),if_pos (by omega)]
 have HC2:Hid (dB x 9223372036854775807=1):=by unfold Hid dB;rw[if_neg (by omega),if_pos (by omega)]
 clear h
 have aY:Below w.heap.size w w:=Below.refl _ _
 go_enter Tryz.func136,Tryz.ntmps136
 go_wp2_with fail
 obtain⟨hA1,e0⟩:=bx1 w rfl [.bool b,.slice p n c] 28
 have g0:=(hv.below hA1)
 (with_reducible refine(fB _ (x) _ g0 hl1).mono ?_)
 rintro e w1 ⟨v1,rfl,hi1,hb1⟩
 obtain⟨g1,p1,n1,c1,rfl⟩:=hi1.form
 obtain rfl:n1=(dig x.natAbs).length:=hi1.len
 have hf1:=Lib.hid (bU.flag hi1)
 have bF:=(e0.to hb1)
 obtain⟨o0,u0,r0,v0⟩:=bF.cf2
 go_wp2_with fail
 (with_reducible refine(qW _ _ (by omega) (by omega)).mono ?_)
 rintro e w2 ⟨v2,rfl,hi2,hb2⟩
 obtain⟨g2,p2,n2,c2,rfl⟩:=hi2.form
 go_wp2_with fail
 (with_reducible refine(qW _ _ (by omega) (by omega)).mono ?_)
 rintro e w3 ⟨v3,rfl,hi3,hb3⟩
 obtain⟨g3,p3,n3,c3,rfl⟩:=hi3.form
 have gV:=(((bF.store2 (.bool g1) (.slice p1 (dig x.natAbs).length c1)).to hb2).to hb3)
 obtain⟨p0,s0⟩:=gV.cs2
 have x0:=(gV).1
 obtain⟨hA2,z0⟩:=bx1 w3 rfl [.bool false,.slice none 0 0] 28
 have y0:=((gV.to hA2)).1
 go_wp2_with fail
 have a0:=(((hi1.aF bF rfl rfl (.bool g1) (.slice p1 (dig x.natAbs).length c1)).below hb2).below hb3)
 obtain⟨hA3,a1,f0⟩:=bx2 w3 rfl [.bool g2,.slice p2 n2 c2] 28 [.bool g3,.slice p3 n3 c3] 28
 have h0:=(a0.below hA3).raw
 have m0:=(hi2.below hb3)
 have i0:=(m0.below hA3).raw
 (with_reducible refine(lM _ _ (x) ((-9223372036854775808)) _ h0 i0 hl hm1).mono ?_)
 rw[HC1.out]
 rintro e w4 ⟨rfl,hb4⟩
 have jU:=((gV.to hA3).to hb4)
 obtain⟨q0,t0⟩:=jU.cs2
 have w0:=(f0.to hb4)
 obtain⟨c0,d0⟩:=w0.cs2
 go_wp2_with fail
 have l0:=((a0.below hA3).below hb4)
 have j0:=l0.raw
 have n0:=((hi3.below hA3).below hb4)
 have k0:=n0.raw
 (with_reducible refine(lM _ _ (x) (9223372036854775807) _ j0 k0 hl hm2).mono ?_)
 rw[HC2.out]
 rintro e w5 ⟨rfl,hb5⟩
 have b0:=(Below.tr (Below.tr (Below.tr (Below.tr (Below.tr (Below.aF (Below.tr (Below.tr aY hA1) hb1) (b:=w.heap.size) (by omega) (.bool g1) (.slice p1 (dig x.natAbs).length c1)) hb2) hb3) hA3) hb4) hb5)
 go_wp2_with fail
 go_ret2
 exact⟨by rw[HF.out.1,HF.out.2];rfl,b0⟩
theorem a6e (v:Value) (x:Int) (w:World) (hv:Raw w v x) (hl:isz x<=999999999) (h:-9223372036854775808<=x/\x<=9223372036854775807) :
  Calls Tryz.prog 136 #[v] w fun e W'=>e=.returned (.tuple #[.int .i64 (aG x),.bool (aN x)])/\Below w.heap.size w W':=by
 obtain⟨b,p,n,c,rfl⟩:=hv.form
 have hl1:isz x<=1000000000:=by omega
 have hm1:isz (-9223372036854775808)<=999999999:=UA _ (by omega) (by omega)
 have hm2:isz 9223372036854775807<=999999999:=UA _ (by omega) (by omega)
 have HF:=Lib.hid (b7k h)
 have HR:=Lib.hid h
 obtain⟨cc,hcc⟩:∃ cc,dB x (-9223372036854775808)=cc:=⟨_,rfl⟩
 obtain⟨cd,hcd⟩:∃ cd,dB x 9223372036854775807=cd:=⟨_,rfl⟩
 have HC1:=Lib.hid hcc
 have HC2:=Lib.hid hcd
 have d1:decide (cc<0)=false:=by
  have:0<=cc:=by rw[<-hcc];unfold dB;rw[if_neg (by omega)];split<;>omega
  simp;omega
 have d2:decide (0<cd)=false:=by
  have:cd<=0:=by rw[<-hcd];unfold dB;split<;>(try split)<;>omega
  simp;omega
 clear hcc hcd h
 have aY:Below w.heap.size w w:=Below.refl _ _
 go_enter Tryz.func136,Tryz.ntmps136
 go_wp2_with fail
 obtain⟨hA1,i0⟩:=bx1 w rfl [.bool b,.slice p n c] 28
 have k0:=(hv.below hA1)
 (with_reducible refine(fB _ (x) _ k0 hl1).mono ?_)
 rintro e w1 ⟨v1,rfl,hi1,hb1⟩
 obtain⟨g1,p1,n1,c1,rfl⟩:=hi1.form
 obtain rfl:n1=(dig x.natAbs).length:=hi1.len
 have hf1:=Lib.hid (bU.flag hi1)
 have bF:=(i0.to hb1)
 obtain⟨s0,y0,v0,z0⟩:=bF.cf2
 go_wp2_with fail
 (with_reducible refine(qW _ _ (by omega) (by omega)).mono ?_)
 rintro e w2 ⟨v2,rfl,hi2,hb2⟩
 obtain⟨g2,p2,n2,c2,rfl⟩:=hi2.form
 go_wp2_with fail
 (with_reducible refine(qW _ _ (by omega) (by omega)).mono ?_)
 rintro e w3 ⟨v3,rfl,hi3,hb3⟩
 obtain⟨g3,p3,n3,c3,rfl⟩:=hi3.form
 have gV:=(((bF.store2 (.bool g1) (.slice p1 (dig x.natAbs).length c1)).to hb2).to hb3)
 obtain⟨t0,w0⟩:=gV.cs2
 have b1:=(gV).1
 obtain⟨hA2,i1⟩:=bx1 w3 rfl [.bool false,.slice none 0 0] 28
 have f1:=((gV.to hA2)).1
 go_wp2_with fail
 have a0:=(((hi1.aF bF rfl rfl (.bool g1) (.slice p1 (dig x.natAbs).length c1)).below hb2).below hb3)
 obtain⟨hA3,j1,j0⟩:=bx2 w3 rfl [.bool g2,.slice p2 n2 c2] 28 [.bool g3,.slice p3 n3 c3] 28
 have l0:=(a0.below hA3).raw
 have q0:=(hi2.below hb3)
 have m0:=(q0.below hA3).raw
 (with_reducible refine(lM _ _ (x) ((-9223372036854775808)) _ l0 m0 hl hm1).mono ?_)
 rw[HC1.out]
 rintro e w4 ⟨rfl,hb4⟩
 have jU:=((gV.to hA3).to hb4)
 obtain⟨u0,x0⟩:=jU.cs2
 have a1:=(j0.to hb4)
 obtain⟨f0,g0⟩:=a1.cs2
 go_wp2_with fail
 have b0:=((a0.below hA3).below hb4)
 have n0:=b0.raw
 have r0:=((hi3.below hA3).below hb4)
 have o0:=r0.raw
 (with_reducible refine(lM _ _ (x) (9223372036854775807) _ n0 o0 hl hm2).mono ?_)
 rw[HC2.out]
 rintro e w5 ⟨rfl,hb5⟩
 have SN:=(jU.to hb5)
 have p0:=(b0.below hb5)
 have d0:=(Below.tr (Below.tr (Below.tr (Below.tr (Below.tr (Below.aF (Below.tr (Below.tr aY hA1) hb1) (b:=w.heap.size) (by omega) (.bool g1) (.slice p1 (dig x.natAbs).length c1)) hb2) hb3) hA3) hb4) hb5)
 have qq:=SN
 have qc0:=qq.c0
 have qc1:=qq.c1
 have hRd:=(p0).rd
 have hBB:=d0
 have hlen:(dig x.natAbs).length<=1000000000:=hl1
 have HS:=Lib.hid (qY x)
 go_wp2_with fail
 go_loop [6,7,26,27,28,29,30,31,32,33,34,35,36,37,38,39,40,41,42,43,44,45,46,47,48,49] (fun nn i _ _ _ _ _ _ _ _ _ _ _ _ _ _ _ _ _ _ _ _ _ _ _ _=>∃ (k:Nat) (i' z:Int),i=.int .i64 i'/\k<=(dig x.natAbs).length/\Hid (i'=(k:Int)-1)/\nn=.int .i64 z/\z=sg (decide (x<0)) (val ((dig x.natAbs).drop k))) (fun _ i _ _ _ _ _ _ _ _ _ _ _ _ _ _ _ _ _ _ _ _ _ _ _ _=>(intOf i+1).toNat)
 case atStart=>exact⟨(dig x.natAbs).length,_,0,rfl,Nat.le_refl _,rfl,rfl,by simp[val,sg]⟩
 case round =>
  obtain⟨k,i',z,rfl,hk,hk',rfl,hz⟩:=hrel
  cases k with
  | zero =>
   obtain rfl:i'=-1:=by have:=hk'.out;simpa using this
   have HZ:Hid (z=aG x):=by
    unfold Hid;rw[HF.out.1,hz]
    simp only[List.drop_zero,aK]
    exact HS.out
   clear hz
   go_wp2_with fail
   go_ret2
   exact⟨by rw[HF.out.2,<-HZ.out];rfl,hBB⟩
  | succ k =>
   obtain rfl:i'=(k:Int):=by have:=hk'.out;simp at this;omega
   have hkl:k<(dig x.natAbs).length:=by omega
   obtain⟨ba,oa,rfl,hba,hca⟩:=hRd.at (by intro e;rw[e] at hkl;simp at hkl)
   have hcell:=hca k hkl
   have ga:gr (dig x.natAbs) k<=999999999:=gK (bK _) k
   have h0:(0:Int)<=k:=by omega
   have h1:(k:Int)<(dig x.natAbs).length:=by omega
   obtain⟨v',hvd⟩:∃ v',val ((dig x.natAbs).drop (k+1))=v':=⟨_,rfl⟩
   rw[hvd] at hz
   clear hca
   by_cases hneg:x<0
   ·have hdx:decide (x<0)=true:=decide_eq_true hneg
    obtain rfl:g1=true:=by have:=hf1.out;rw[this];exact hdx
    obtain rfl:z=-(v':Int):=by rw[hz,hdx];simp[sg]
    clear hz
    have HV:Hid (-(val ((dig x.natAbs).drop k):Int)=(-(v':Int))*1000000000-(gr (dig x.natAbs) k:Int)):=by
     have h9:=kK hkl
     rw[bG,hvd] at h9
     show _=_
     omega
    have hb3:(v':Int)*1000000000+gr (dig x.natAbs) k<=9223372036854775808:=by
     have h1:=KN (l:=dig x.natAbs) k
     rw[aK,kK hkl,bG,hvd] at h1
     have:=HR.out
     omega
    have e0:IntKind.i64.wrap (gr (dig x.natAbs) k:Int)=(gr (dig x.natAbs) k:Int):=rP (by omega) (by omega)
    have e1:IntKind.i64.wrap (-(v':Int)*1000000000)=-(v':Int)*1000000000:=rP (by omega) (by omega)
    have e2:IntKind.i64.wrap (-(v':Int)*1000000000-(gr (dig x.natAbs) k:Int))=-(v':Int)*1000000000-(gr (dig x.natAbs) k:Int):=rP (by omega) (by omega)
    clear hvd
    go_wp2_with fail
    go_round
    case rel=>exact⟨k,_,_,rfl,by omega,rfl,rfl,by rw[hdx];simp only[sg,if_true,if_false,Bool.false_eq_true];exact HV.out.symm⟩
    case measure=>simp[intOf]
   ·have hdx:decide (x<0)=false:=decide_eq_false hneg
    obtain rfl:g1=false:=by have:=hf1.out;rw[this];exact hdx
    obtain rfl:z=(v':Int):=by rw[hz,hdx];simp[sg]
    clear hz
    have HV:Hid ((val ((dig x.natAbs).drop k):Int)=((v':Int))*1000000000+(gr (dig x.natAbs) k:Int)):=by
     have h9:=kK hkl
     rw[bG,hvd] at h9
     show _=_
     omega
    have hb3:(v':Int)*1000000000+gr (dig x.natAbs) k<=9223372036854775807:=by
     have h1:=KN (l:=dig x.natAbs) k
     rw[aK,kK hkl,bG,hvd] at h1
     have:=HR.out
     omega
    have e0:IntKind.i64.wrap (gr (dig x.natAbs) k:Int)=(gr (dig x.natAbs) k:Int):=rP (by omega) (by omega)
    have e1:IntKind.i64.wrap ((v':Int)*1000000000)=(v':Int)*1000000000:=rP (by omega) (by omega)
    have e2:IntKind.i64.wrap ((v':Int)*1000000000+(gr (dig x.natAbs) k:Int))=(v':Int)*1000000000+(gr (dig x.natAbs) k:Int):=rP (by omega) (by omega)
    clear hvd
    go_wp2_with fail
    go_round
    case rel=>exact⟨k,_,_,rfl,by omega,rfl,rfl,by rw[hdx];simp only[sg,if_true,if_false,Bool.false_eq_true];exact HV.out.symm⟩
    case measure=>simp[intOf]
theorem a2V (v:Value) (x:Int) (w:World) (hv:Raw w v x) (hl:isz x<=999999999) :
  Calls Tryz.prog 136 #[v] w fun e W'=>e=.returned (.tuple #[.int .i64 (aG x),.bool (aN x)])/\Below w.heap.size w W':=by
 by_cases h1:x < -9223372036854775808
 ·exact a2W v x w hv hl h1
 by_cases h2:9223372036854775807<x
 ·exact a1d v x w hv hl h2
 ·exact a6e v x w hv hl ⟨by omega,by omega⟩
end Go.Proofs.YtidfgdchcpmnfaaGreat
namespace Go.Proofs.YtidfgdchcpmnfaaGreat
open Go Go.RowKit
set_option maxRecDepth 100000
set_option maxHeartbeats 1000000
set_option linter.unusedVariables false
set_option linter.unusedSimpArgs false
def b6a (K:Nat) (g:Int->Int):Ctr:=⟨[tZ],[tI],fun x=>isz x.1<=K,fun x=>(g x.1,())⟩
theorem a9y {f:FuncId} {K:Nat} {g:Int->Int} (h:∀ (v:Value) (x:Int) (w:World),Raw w v x->isz x<=K->Calls Tryz.prog f #[v] w (fun e w'=>e=.returned (.int .i64 (g x))/\Below w.heap.size w w')):dG Tryz.prog f (b6a K g):=by
 intro F w vs x hF hvs hp
 obtain⟨v,vs',rfl,h1,h3⟩:=hvs
 have h3:vs'=[]:=h3
 subst h3
 refine(h v x.1 w (rU h1).raw hp).mono ?_
 rintro e w' ⟨rfl,hb⟩
 exact⟨_,rfl,uI _,hb⟩
def a3F (K:Nat):Ctr:=⟨[tZ],[tI,tB],fun x=>isz x.1<=K,fun x=>(aG x.1,aN x.1,())⟩
theorem a1P {f:FuncId} {K:Nat} (h:∀ (v:Value) (x:Int) (w:World),Raw w v x->isz x<=K->Calls Tryz.prog f #[v] w (fun e w'=>e=.returned (.tuple #[.int .i64 (aG x),.bool (aN x)])/\Below w.heap.size w w')):dG Tryz.prog f (a3F K):=by
 intro F w vs x hF hvs hp
 obtain⟨v,vs',rfl,h1,h3⟩:=hvs
 have h3:vs'=[]:=h3
 subst h3
 refine(h v x.1 w (rU h1).raw hp).mono ?_
 rintro e w' ⟨rfl,hb⟩
 exact⟨_,rfl,⟨[_,_],rfl,_,_,rfl,uI _,_,_,rfl,RJ _,rfl⟩,hb⟩
def b0U (K:Nat):Ctr:=⟨[tZ,tZ],[tZ,tZ,tI],fun x=>isz x.1<=K/\isz x.2.1<=K/\(show Int from x.2.1)≠0,fun x=>(Int.fdiv x.1 x.2.1,Int.fmod x.1 x.2.1,(0:Int),())⟩
theorem a6S {f:FuncId} {K:Nat} (h:∀ (v u:Value) (x y:Int) (w:World),Raw w v x->Raw w u y->isz x<=K->isz y<=K->y≠0->Calls Tryz.prog f #[v,u] w (MH (x.fdiv y) (x.fmod y) w)):dG Tryz.prog f (b0U K):=by
 intro F w vs x hF hvs hp
 obtain⟨v,vs',rfl,h1,u,vs'',rfl,h2,h3⟩:=hvs
 have h3:vs''=[]:=h3
 subst h3
 refine(h v u x.1 x.2.1 w (rU h1).raw (rU h2).raw hp.1 hp.2.1 hp.2.2).mono ?_
 rintro e w' ⟨v1,v2,rfl,h1,h2,hb⟩
 exact⟨_,rfl,⟨[_,_,_],rfl,_,_,rfl,KL h1,_,_,rfl,KL h2,_,_,rfl,uI _,rfl⟩,hb⟩
def cIR:Ctr:=⟨[tI],[tR],fun x=>bW x.1,fun x=>(zF ((show Int from x.1:Int):Rat),())⟩
theorem a6U {f:FuncId} (h:∀ (x:Int) (w:World),bW x->Calls Tryz.prog f #[.int .i64 x] w (GQ (x:Rat) w)):dG Tryz.prog f cIR:=by
 intro F w vs x hF hvs hp
 obtain⟨v,vs',rfl,h1,h3⟩:=hvs
 have h3:vs'=[]:=h3
 subst h3
 rw[a0s h1]
 refine(h x.1 w hp).mono ?_
 rintro e w' ⟨r,rfl,hr,hb⟩
 exact⟨r,rfl,a3k hr,hb⟩
noncomputable def LI0:Lib:=(((((((LE2
 ).add 112 cIZ (a6V fun x w h0 h1=>qW x w h0 h1)
 ).add 125 (cZ2 fun x y=>((Int.gcd x y:Nat):Int)) (WI fun v u x y w h1 h2 l1 l2=>FI v u x y w h1 h2 l1 l2)
 ).add 88 (cZ2 fun x y=>x*y) (WI fun v u x y w h1 h2 l1 l2=>nR v u x y w h1 h2 l1 l2)
 ).add 126 (cZ1 fun x=>-x) (a7b fun v x w h1 l1=>FM v x w h1 l1)
 ).add 76 (b6a 1000000000 sgn) (a9y fun v x w h1 l1=>mV v x w h1 l1)
 ).add 136 (a3F 999999999) (a1P fun v x w h1 l1=>a2V v x w h1 l1)
 ).add 113 (b0U 400000000) (a6S fun v u x y w h1 h2 l1 l2 hy=>qE v u x y w h1 h2 l1 l2 hy)
def TD (xs:Nat->Int) (k:Nat):Int:=sgn (kL xs k)
def a6Z:Ctr:=⟨[.list tZ],[nS,tI],fun x=>(show List Int from x.1).length=4/\(∀ j,j<4->isz (xsL x.1 j)<=400000000)/\∃ j,j<4/\xsL x.1 j≠0,fun x=>aX (xsL x.1)⟩
theorem a9u (q:Int):(bif (bif !aN q then true else decide (aG q > 1048576)) then true else decide (aG q < -1048576))=!decide (okc q):=by
 rw[<-bad_eq]
 cases aN q<;>cases decide (aG q > 1048576)<;>cases decide (aG q < -1048576)<;>rfl
theorem a8X {x:Int} (h:sgn x<0):x<0:=Int.sign_neg_iff.1 h
theorem a6i {x:Int} (h:x<0):sgn x<0:=Int.sign_neg_iff.2 h
theorem QS:dG Tryz.prog 96 a6Z:=by
 refine fF LI0 [2,4,10,11] Tryz.func96 rfl (by decide) (fun x=>[.inv Le4 (fun k=>[(5,.val tI (k.1:Int))]) (fun k=>[(2,.box [⟨tI,(0:Int)⟩,⟨tI,(0:Int)⟩,⟨tI,(0:Int)⟩,⟨tI,(0:Int)⟩]),(4,.box [⟨tZ,aO (xsL x.1) k.1⟩])]) (fun k=>4-k.1) ⟨0,by omega⟩ (fun _=>[]),
  .inv Le4 (fun k=>[(6,.val tI (TD (xsL x.1) k.1)),(7,.val tI (k.1:Int))]) (fun k=>[(2,.box [⟨tI,(0:Int)⟩,⟨tI,(0:Int)⟩,⟨tI,(0:Int)⟩,⟨tI,(0:Int)⟩]),(4,.box [⟨tZ,aO (xsL x.1) 4⟩])]) (fun k=>4-k.1) ⟨0,by omega⟩ (fun _=>[]),
  .inv {k:Nat // k<=4/\∀ j,j<k->okc (kW (xsL x.1) j)} (fun k=>[(8,.own 41 0),(41,.any),(9,.val tI (k.1:Int))]) (fun k=>[(2,.box [⟨tI,(0:Int)⟩,⟨tI,(0:Int)⟩,⟨tI,(0:Int)⟩,⟨tI,(0:Int)⟩]),(4,.box [⟨tZ,kH (xsL x.1)⟩]),(41,.row 3 tI ((List.range k.1).map (kW (xsL x.1))) 0)]) (fun k=>4-k.1) ⟨0,by omega,fun j h=>by omega⟩ (fun _=>[])]) (fun x hp=>?_)
 obtain⟨x,u⟩:=x
 change List Int at x
 refine iO (let x0z:=(kH (xsL x));let x1z:=(kW (xsL x));(bW 0/\True)/\(asT Int 0=0/\asT Int 0=0/\asT Int 0=0/\asT Int 0=0/\asT Int 0=0/\0=aO (xsL x) 0/\True)/\∀ (i:Le4),asT Bool true=true/\ifB (decide (aB (aA i)<4)) ((0<=aB (aA i)/\aB (aA i)<aB (List.length x)/\(isz (aO (xsL x) (aA i))<=1000000000/\isz (List.getD x (Int.toNat (aB (aA i))) 0)<=1000000000)/\True)/\∃ (i':Le4),4-aA i'<4-aA i/\IntKind.wrap IntKind.i64 (aB (aA i)+1)=aB (aA i')/\asT Int 0=0/\asT Int 0=0/\asT Int 0=0/\asT Int 0=0/\aB (Int.gcd (aO (xsL x) (aA i)) (List.getD x (Int.toNat (aB (aA i))) 0))=aO (xsL x) (aA i')/\True) ((0=TD (xsL x) 0/\asT Int 0=0/\asT Int 0=0/\asT Int 0=0/\asT Int 0=0/\asT Int 0=0/\aO (xsL x) (aA i)=aO (xsL x) 4/\True)/\∀ (i:Le4),asT Bool true=true/\ifB (decide (aB (aA i)<4)) (ifB (TD (xsL x) (aA i)==0) ((0<=aB (aA i)/\aB (aA i)<aB (List.length x)/\isz (List.getD x (Int.toNat (aB (aA i))) 0)<=1000000000/\True)/\∃ (i':Le4),4-aA i'<4-aA i/\sgn (List.getD x (Int.toNat (aB (aA i))) 0)=TD (xsL x) (aA i')/\IntKind.wrap IntKind.i64 (aB (aA i)+1)=aB (aA i')/\asT Int 0=0/\asT Int 0=0/\asT Int 0=0/\asT Int 0=0/\aO (xsL x) 4=aO (xsL x) 4/\True) (∃ (i':Le4),4-aA i'<4-aA i/\TD (xsL x) (aA i)=TD (xsL x) (aA i')/\IntKind.wrap IntKind.i64 (aB (aA i)+1)=aB (aA i')/\asT Int 0=0/\asT Int 0=0/\asT Int 0=0/\asT Int 0=0/\aO (xsL x) 4=aO (xsL x) 4/\True)) (ifB (decide (TD (xsL x) (aA i)<0)) ((isz (aO (xsL x) 4)<=1000000000/\True)/\(asT Int 0=0/\asT Int 0=0/\asT Int 0=0/\asT Int 0=0/\asT Int 0=0/\-aO (xsL x) 4=kH (xsL x)/\asT (List Int) (aH Int)=aH Int/\True)/\∀ (i:{ k:Nat // k<=4/\∀ (j:Nat),j<k->okc (kW (xsL x) j) }),asT Bool true=true/\ifB (decide (aB (aA i)<4)) ((0<=aB (aA i)/\aB (aA i)<aB (List.length x)/\(isz (List.getD x (Int.toNat (aB (aA i))) 0)<=400000000/\isz x0z<=400000000/\kH (xsL x)≠0)/\True)/\(isz (Int.fdiv (List.getD x (Int.toNat (aB (aA i))) 0) x0z)<=999999999/\True)/\((((!aN (Int.fdiv (List.getD x (Int.toNat (aB (aA i))) 0) x0z))==false)=true->((!aN (Int.fdiv (List.getD x (Int.toNat (aB (aA i))) 0) x0z))==false)=true/\True)/\((!aN (Int.fdiv (List.getD x (Int.toNat (aB (aA i))) 0) x0z))=false->((!aN (Int.fdiv (List.getD x (Int.toNat (aB (aA i))) 0) x0z))==false)=true)/\(((bif !aN (Int.fdiv (List.getD x (Int.toNat (aB (aA i))) 0) x0z) then true else decide (aG (Int.fdiv (List.getD x (Int.toNat (aB (aA i))) 0) x0z) > 1048576))==false)=true->((bif !aN (Int.fdiv (List.getD x (Int.toNat (aB (aA i))) 0) x0z) then true else decide (aG (Int.fdiv (List.getD x (Int.toNat (aB (aA i))) 0) x0z) > 1048576))==false)=true/\True)/\((bif !aN (Int.fdiv (List.getD x (Int.toNat (aB (aA i))) 0) x0z) then true else decide (aG (Int.fdiv (List.getD x (Int.toNat (aB (aA i))) 0) x0z) > 1048576))=false->((bif !aN (Int.fdiv (List.getD x (Int.toNat (aB (aA i))) 0) x0z) then true else decide (aG (Int.fdiv (List.getD x (Int.toNat (aB (aA i))) 0) x0z) > 1048576))==false)=true)/\True)/\ifB (bif bif !aN (Int.fdiv (List.getD x (Int.toNat (aB (aA i))) 0) x0z) then true else decide (aG (Int.fdiv (List.getD x (Int.toNat (aB (aA i))) 0) x0z) > 1048576) then true else decide (aG (Int.fdiv (List.getD x (Int.toNat (aB (aA i))) 0) x0z) < -1048576)) (True/\(0,0,0,0,())=Prod.fst (aX (xsL x))/\True/\3=Prod.fst (Prod.snd (aX (xsL x)))/\True) ((List.length (List.map x1z (List.range (aA i)))+List.length (aG (Int.fdiv (List.getD x (Int.toNat (aB (aA i))) 0) x0z)::aH Int)<=1000000000/\True)/\∃ (i':{ k:Nat // k<=4/\∀ (j:Nat),j<k->okc (kW (xsL x) j) }),4-aA i'<4-aA i/\IntKind.wrap IntKind.i64 (aB (aA i)+1)=aB (aA i')/\asT Int 0=0/\asT Int 0=0/\asT Int 0=0/\asT Int 0=0/\kH (xsL x)=kH (xsL x)/\List.map x1z (List.range (aA i))++aG (Int.fdiv (List.getD x (Int.toNat (aB (aA i))) 0) x0z)::aH Int=List.map x1z (List.range (aA i'))/\True)) ((asT Int 0<=0/\0<aB (List.length (List.map x1z (List.range (aA i))))/\0<List.length (List.map x1z (List.range (aA i)))/\asT Int 0<=1/\1<aB (List.length (List.map x1z (List.range (aA i))))/\1<List.length (List.map x1z (List.range (aA i)))/\asT Int 0<=2/\2<aB (List.length (List.map x1z (List.range (aA i))))/\2<List.length (List.map x1z (List.range (aA i)))/\asT Int 0<=3/\3<aB (List.length (List.map x1z (List.range (aA i))))/\3<List.length (List.map x1z (List.range (aA i)))/\True)/\True/\(List.getD (List.map x1z (List.range (aA i))) 0 0,List.getD (List.map x1z (List.range (aA i))) 1 0,List.getD (List.map x1z (List.range (aA i))) 2 0,List.getD (List.map x1z (List.range (aA i))) 3 0,())=Prod.fst (aX (xsL x))/\True/\0=Prod.fst (Prod.snd (aX (xsL x)))/\True)) ((asT Int 0=0/\asT Int 0=0/\asT Int 0=0/\asT Int 0=0/\asT Int 0=0/\aO (xsL x) 4=kH (xsL x)/\asT (List Int) (aH Int)=aH Int/\True)/\∀ (i:{ k:Nat // k<=4/\∀ (j:Nat),j<k->okc (kW (xsL x) j) }),asT Bool true=true/\ifB (decide (aB (aA i)<4)) ((0<=aB (aA i)/\aB (aA i)<aB (List.length x)/\(isz (List.getD x (Int.toNat (aB (aA i))) 0)<=400000000/\isz x0z<=400000000/\kH (xsL x)≠0)/\True)/\(isz (Int.fdiv (List.getD x (Int.toNat (aB (aA i))) 0) x0z)<=999999999/\True)/\((((!aN (Int.fdiv (List.getD x (Int.toNat (aB (aA i))) 0) x0z))==false)=true->((!aN (Int.fdiv (List.getD x (Int.toNat (aB (aA i))) 0) x0z))==false)=true/\True)/\((!aN (Int.fdiv (List.getD x (Int.toNat (aB (aA i))) 0) x0z))=false->((!aN (Int.fdiv (List.getD x (Int.toNat (aB (aA i))) 0) x0z))==false)=true)/\(((bif !aN (Int.fdiv (List.getD x (Int.toNat (aB (aA i))) 0) x0z) then true else decide (aG (Int.fdiv (List.getD x (Int.toNat (aB (aA i))) 0) x0z) > 1048576))==false)=true->((bif !aN (Int.fdiv (List.getD x (Int.toNat (aB (aA i))) 0) x0z) then true else decide (aG (Int.fdiv (List.getD x (Int.toNat (aB (aA i))) 0) x0z) > 1048576))==false)=true/\True)/\((bif !aN (Int.fdiv (List.getD x (Int.toNat (aB (aA i))) 0) x0z) then true else decide (aG (Int.fdiv (List.getD x (Int.toNat (aB (aA i))) 0) x0z) > 1048576))=false->((bif !aN (Int.fdiv (List.getD x (Int.toNat (aB (aA i))) 0) x0z) then true else decide (aG (Int.fdiv (List.getD x (Int.toNat (aB (aA i))) 0) x0z) > 1048576))==false)=true)/\True)/\ifB (bif bif !aN (Int.fdiv (List.getD x (Int.toNat (aB (aA i))) 0) x0z) then true else decide (aG (Int.fdiv (List.getD x (Int.toNat (aB (aA i))) 0) x0z) > 1048576) then true else decide (aG (Int.fdiv (List.getD x (Int.toNat (aB (aA i))) 0) x0z) < -1048576)) (True/\(0,0,0,0,())=Prod.fst (aX (xsL x))/\True/\3=Prod.fst (Prod.snd (aX (xsL x)))/\True) ((List.length (List.map x1z (List.range (aA i)))+List.length (aG (Int.fdiv (List.getD x (Int.toNat (aB (aA i))) 0) x0z)::aH Int)<=1000000000/\True)/\∃ (i':{ k:Nat // k<=4/\∀ (j:Nat),j<k->okc (kW (xsL x) j) }),4-aA i'<4-aA i/\IntKind.wrap IntKind.i64 (aB (aA i)+1)=aB (aA i')/\asT Int 0=0/\asT Int 0=0/\asT Int 0=0/\asT Int 0=0/\kH (xsL x)=kH (xsL x)/\List.map x1z (List.range (aA i))++aG (Int.fdiv (List.getD x (Int.toNat (aB (aA i))) 0) x0z)::aH Int=List.map x1z (List.range (aA i'))/\True)) ((asT Int 0<=0/\0<aB (List.length (List.map x1z (List.range (aA i))))/\0<List.length (List.map x1z (List.range (aA i)))/\asT Int 0<=1/\1<aB (List.length (List.map x1z (List.range (aA i))))/\1<List.length (List.map x1z (List.range (aA i)))/\asT Int 0<=2/\2<aB (List.length (List.map x1z (List.range (aA i))))/\2<List.length (List.map x1z (List.range (aA i)))/\asT Int 0<=3/\3<aB (List.length (List.map x1z (List.range (aA i))))/\3<List.length (List.map x1z (List.range (aA i)))/\True)/\True/\(List.getD (List.map x1z (List.range (aA i))) 0 0,List.getD (List.map x1z (List.range (aA i))) 1 0,List.getD (List.map x1z (List.range (aA i))) 2 0,List.getD (List.map x1z (List.range (aA i))) 3 0,())=Prod.fst (aX (xsL x))/\True/\0=Prod.fst (Prod.snd (aX (xsL x)))/\True))))) (by kernel_rfl) ?_
 obtain⟨hl,hb,hn⟩:=hp
 dsimp only[aB,aA,asT,aH,iJ] at *
 have hx:∀ j,x.getD j 0=xsL x j:=fun _=>rfl
 simp only[a9u,hx,gU,true_and,and_true,imp_self,Bool.not_eq_true',Bool.not_eq_false',decide_eq_true_eq,decide_eq_false_iff_not,Int.toNat_natCast,true_implies,implies_true,beq_iff_eq,bne_iff_ne,ne_eq,beq_eq_false_iff_ne,bne_eq_false_iff_eq]
 generalize xsL x=X at *
 have gs:∀ k,k<=4->isz (aO X k)<=1000000000:=fun k hk=>Nat.le_trans (EJ (K:=400000000) k (fun j hj=>hb j (by omega))) (by omega)
 have xs:∀ j,j<4->isz (X j)<=1000000000:=fun j hj=>Nat.le_trans (hb j hj) (by omega)
 have g0:kH X≠0:=by obtain⟨j,h1,h2⟩:=hn;exact a0K h1 h2
 have gI:isz (kH X)<=400000000:=by
  have:=EJ (K:=400000000) 4 hb
  unfold kH
  split
  ·rw[mG];exact this
  ·exact this
 have ss:∀ k,TD X (k+1)=if TD X k=0 then sgn (X k) else TD X k:=fun k=>by
  show sgn (if kL X k=0 then X k else kL X k)=if sgn (kL X k)=0 then sgn (X k) else sgn (kL X k)
  by_cases h:kL X k=0
  ·rw[if_pos h,if_pos (jZ.2 h)]
  ·rw[if_neg h,if_neg (fun e=>h (jZ.1 e))]
 refine⟨by unfold bW;omega,rfl,fun i=>⟨fun h1=>?a,fun h1=>⟨⟨rfl,by have:=i.2;rw[show i.1=4 by omega]⟩,fun i=>⟨fun h2=>⟨fun h3=>?b,fun h3=>?c⟩,fun h2=>⟨fun h3=>⟨gs 4 (by omega),?d,fun k=>?l⟩,fun h3=>⟨?e,fun k=>?m⟩⟩⟩⟩⟩⟩
 case a=>exact⟨⟨by omega,by omega,gs _ i.2,xs _ (by omega)⟩,⟨i.1+1,by omega⟩,by simp only;omega,by rw[dV (by omega) (by omega)];rfl,rfl⟩
 case b=>exact⟨⟨by omega,by omega,xs _ (by omega)⟩,⟨i.1+1,by omega⟩,by simp only;omega,by rw[ss,if_pos h3],by rw[dV (by omega) (by omega)];rfl⟩
 case c=>exact⟨⟨i.1+1,by omega⟩,by simp only;omega,by rw[ss,if_neg h3],by rw[dV (by omega) (by omega)];rfl⟩
 case d =>
  have:=i.2
  rw[show i.1=4 by omega] at h3
  exact(if_pos (by have:=a8X h3;exact this)).symm
 case e =>
  have:=i.2
  rw[show i.1=4 by omega] at h3
  exact(if_neg (fun e=>h3 (a6i e))).symm
 all_goals
  refine⟨fun h4=>⟨⟨by omega,by omega,hb _ (by omega),gI,g0⟩,Nat.le_trans (qU g0 (a5O (by omega))) (Nat.le_trans (hb _ (by omega)) (by omega)),fun h5=>?_,fun h5=>⟨?_,⟨k.1+1,by omega,fun j hj=>?_⟩,by simp only;omega,by rw[dV (by omega) (by omega)];rfl,?_⟩⟩,fun h4=>?_⟩
  ·have:aX X=((0,0,0,0,()),3,()):=if_neg (fun e=>h5 (e k.1 (by omega)))
   rw[this];exact⟨rfl,rfl⟩
  ·simp only[List.length_map,List.length_range,List.length_cons,List.length_nil];omega
  ·rcases Nat.lt_succ_iff_lt_or_eq.1 hj with hj|rfl
   ·exact k.2.2 j hj
   ·exact h5
  ·simp only[List.range_succ,List.map_append,List.map_cons,List.map_nil,sG h5];rfl
  ·have hk:k.1=4:=by have:=k.2.1;omega
   have:aX X=((kW X 0,kW X 1,kW X 2,kW X 3,()),0,()):=if_pos (fun j hj=>k.2.2 j (by omega))
   rw[this,hk]
   exact⟨by simp only[List.length_map,List.length_range];omega,rfl,rfl⟩
noncomputable def LI1:Lib:=LI0.add 96 a6Z QS
def b5W:Ctr:=⟨[.list tQ],[nS,tI],fun x=>(show List Rat from x.1).length=4/\(∀ j,j<4->rsz (qL x.1 j)<=50000000)/\∃ j,j<4/\qL x.1 j≠0,fun x=>aX (aV (qL x.1))⟩
theorem a1a:dG Tryz.prog 63 b5W:=by
 refine fF LI1 [2,4,8,9] Tryz.func63 rfl (by decide) (fun x=>[.inv Le4 (fun k=>[(5,.val tI (k.1:Int))]) (fun k=>[(2,.box [⟨tI,(0:Int)⟩,⟨tI,(0:Int)⟩,⟨tI,(0:Int)⟩,⟨tI,(0:Int)⟩]),(4,.box [⟨tZ,dM (qL x.1) k.1⟩])]) (fun k=>4-k.1) ⟨0,by omega⟩ (fun _=>[]),
  .inv Le4 (fun k=>[(6,.own 23 0),(23,.any),(7,.val tI (k.1:Int))]) (fun k=>[(2,.box [⟨tI,(0:Int)⟩,⟨tI,(0:Int)⟩,⟨tI,(0:Int)⟩,⟨tI,(0:Int)⟩]),(4,.box [⟨tZ,dM (qL x.1) 4⟩]),(23,.row 28 tZ ((List.range k.1).map (aV (qL x.1))) 0)]) (fun k=>4-k.1) ⟨0,by omega⟩ (fun _=>[])]) (fun x hp=>?_)
 obtain⟨x,u⟩:=x
 change List Rat at x
 refine iO ((bW 1/\True)/\(asT Int 0=0/\asT Int 0=0/\asT Int 0=0/\asT Int 0=0/\asT Int 0=0/\1=dM (qL x) 0/\True)/\∀ (i:Le4),asT Bool true=true/\ifB (decide (aB (aA i)<4)) ((0<=aB (aA i)/\aB (aA i)<aB (List.length x)/\(isz (dM (qL x) (aA i))<=1000000000/\isz (aB (Rat.den (List.getD x (Int.toNat (aB (aA i))) 0)))<=1000000000)/\True)/\∃ (i':Le4),4-aA i'<4-aA i/\IntKind.wrap IntKind.i64 (aB (aA i)+1)=aB (aA i')/\asT Int 0=0/\asT Int 0=0/\asT Int 0=0/\asT Int 0=0/\dM (qL x) (aA i)*aB (Rat.den (List.getD x (Int.toNat (aB (aA i))) 0))=dM (qL x) (aA i')/\True) ((asT Int 0=0/\asT Int 0=0/\asT Int 0=0/\asT Int 0=0/\asT Int 0=0/\dM (qL x) (aA i)=dM (qL x) 4/\asT (List Int) (aH Int)=aH Int/\True)/\∀ (i:Le4),asT Bool true=true/\ifB (decide (aB (aA i)<4)) ((0<=aB (aA i)/\aB (aA i)<aB (List.length x)/\(isz (dM (qL x) 4)<=400000000/\isz (aB (Rat.den (List.getD x (Int.toNat (aB (aA i))) 0)))<=400000000/\aB (Rat.den (List.getD x (Int.toNat (aB (aA i))) 0))≠0)/\True)/\(0<=aB (aA i)/\aB (aA i)<aB (List.length x)/\(isz (Int.fdiv (dM (qL x) 4) (aB (Rat.den (List.getD x (Int.toNat (aB (aA i))) 0))))<=1000000000/\isz (Rat.num (List.getD x (Int.toNat (aB (aA i))) 0))<=1000000000)/\List.length (List.map (aV (qL x)) (List.range (aA i)))+List.length (Int.fdiv (dM (qL x) 4) (aB (Rat.den (List.getD x (Int.toNat (aB (aA i))) 0)))*Rat.num (List.getD x (Int.toNat (aB (aA i))) 0)::aH Int)<=1000000000/\True)/\∃ (i':Le4),4-aA i'<4-aA i/\IntKind.wrap IntKind.i64 (aB (aA i)+1)=aB (aA i')/\asT Int 0=0/\asT Int 0=0/\asT Int 0=0/\asT Int 0=0/\dM (qL x) 4=dM (qL x) 4/\List.map (aV (qL x)) (List.range (aA i))++Int.fdiv (dM (qL x) 4) (aB (Rat.den (List.getD x (Int.toNat (aB (aA i))) 0)))*Rat.num (List.getD x (Int.toNat (aB (aA i))) 0)::aH Int=List.map (aV (qL x)) (List.range (aA i'))/\True) (((List.length (List.map (aV (qL x)) (List.range (aA i)))=4/\(∀ (j:Nat),j<4->isz (xsL (List.map (aV (qL x)) (List.range (aA i))) j)<=400000000)/\∃ (j:Nat),j<4/\xsL (List.map (aV (qL x)) (List.range (aA i))) j≠0)/\True)/\True/\(Prod.fst (Prod.fst (aX (xsL (List.map (aV (qL x)) (List.range (aA i)))))),Prod.fst (Prod.snd (Prod.fst (aX (xsL (List.map (aV (qL x)) (List.range (aA i))))))),Prod.fst (Prod.snd (Prod.snd (Prod.fst (aX (xsL (List.map (aV (qL x)) (List.range (aA i)))))))),Prod.fst (Prod.snd (Prod.snd (Prod.snd (Prod.fst (aX (xsL (List.map (aV (qL x)) (List.range (aA i))))))))),())=Prod.fst (aX (aV (qL x)))/\True/\Prod.fst (Prod.snd (aX (xsL (List.map (aV (qL x)) (List.range (aA i))))))=Prod.fst (Prod.snd (aX (aV (qL x))))/\True))) (by kernel_rfl) ?_
 obtain⟨hl,hb,hn⟩:=hp
 dsimp only[aB,asT,aA,aH] at *
 have hx:∀ j,x.getD j 0=qL x j:=fun _=>rfl
 simp only[hx,Int.toNat_natCast,gU,decide_eq_true_eq,decide_eq_false_iff_not,true_and,and_true,ne_eq]
 generalize qL x=q at *
 have d:∀ k,k<=4->isz (dM q k)<=400000000:=fun k hk=>Nat.le_trans (NK hb k hk) (by omega)
 have r:∀ j,j<4->isz ((q j).den:Int)<=400000000:=fun j hj=>Nat.le_trans (cO (q j)) (Nat.le_trans (hb j hj) (by omega))
 have n:∀ j,j<4->isz (q j).num<=1000000000:=fun j hj=>Nat.le_trans (dL (q j)) (Nat.le_trans (hb j hj) (by omega))
 have z:∀ j,¬ ((q j).den:Int)=0:=fun j=>by have:=(q j).den_nz;omega
 refine⟨by unfold bW;omega,rfl,fun i=>⟨fun h1=>⟨⟨by omega,by omega,Nat.le_trans (d _ i.2) (by omega),Nat.le_trans (r _ (by omega)) (by omega)⟩,⟨i.1+1,by omega⟩,by simp only;omega,by rw[dV (by omega) (by omega)];rfl,rfl⟩,fun h1=>⟨by have:=i.2;rw[show i.1=4 by omega],fun i=>⟨fun h2=>⟨⟨by omega,by omega,d 4 (by omega),r _ (by omega),z _⟩,⟨by omega,by omega,⟨Nat.le_trans (qU (z _) (wC q (by omega))) (Nat.le_trans (d 4 (by omega)) (by omega)),n _ (by omega)⟩,by simp only[List.length_map,List.length_range,List.length_cons,List.length_nil];omega⟩,⟨i.1+1,by omega⟩,by simp only;omega,by rw[dV (by omega) (by omega)];rfl,?_⟩,fun h2=>?_⟩⟩⟩⟩
 ·simp only[List.range_succ,List.map_append,List.map_cons,List.map_nil,Int.mul_comm _ (q i.1).num];rfl
 ·have hk:i.1=4:=by have:=i.2;omega
  have hX:∀ k,k<4->xsL (List.map (aV q) (List.range 4)) k=aV q k:=fun k hk=>by
   match k,hk with
   | 0,_=>rfl
   | 1,_=>rfl
   | 2,_=>rfl
   | 3,_=>rfl
  rw[hk,qB hX]
  refine⟨⟨rfl,fun j hj=>?_,?_⟩,rfl,rfl⟩
  ·rw[hX j hj];exact Nat.le_trans (JL hb hj) (by omega)
  ·obtain⟨j,hj,h⟩:=hn
   exact⟨j,hj,by rw[hX j hj];exact NC hj h⟩
noncomputable def LI2:Lib:=((LI1.add 63 b5W a1a
 ).add 84 (cVal 999999999) (a3G fun v ok q w h hn=>qG v ok q w h hn)
 ).add 24 cIR (a6U fun x w h=>JB x w h.1 h.2)
theorem b6d (x:QC4):(x.1.1,x.1.2.1,x.1.2.2.1,x.1.2.2.2.1,())=x.1:=rfl
def sm2 (q:aI):Prop:=q.g.length<=2/\q.h.length<=2/\rsz q.x<=2
def GV (u v w:aI):QC4:=if u.ok=true/\v.ok=true/\w.ok=true then aX (aV (qL [((1:Int):Rat),u.x,v.x,w.x])) else ((0,0,0,0,()),1,())
theorem a3H {u v w:aI} (hu:sm2 u) (hv:sm2 v) (hw:sm2 w):[((1:Int):Rat),u.x,v.x,w.x].length=4/\(∀ j,j<4->rsz (qL [((1:Int):Rat),u.x,v.x,w.x] j)<=50000000)/\∃ j,j<4/\qL [((1:Int):Rat),u.x,v.x,w.x] j≠0:=by
 refine⟨rfl,fun j hj=>?_,0,by omega,by show ((1:Int):Rat)≠0;decide +kernel⟩
 match j,hj with
 | 0,_=>show rsz ((1:Int):Rat)<=_;decide +kernel
 | 1,_=>exact Nat.le_trans hu.2.2 (by omega)
 | 2,_=>exact Nat.le_trans hv.2.2 (by omega)
 | 3,_=>exact Nat.le_trans hw.2.2 (by omega)
def a9v:Ctr:=⟨[tR,tR,tR],[nS,tI],fun x=>sm2 x.1/\sm2 x.2.1/\sm2 x.2.2.1,fun x=>GV x.1 x.2.1 x.2.2.1⟩
theorem a0R:dG Tryz.prog 39 a9v:=by
 refine fF LI2 [6] Tryz.func39 rfl (by decide) (fun x=>[]) (fun x hp=>?_)
 obtain⟨u,v,w,t⟩:=x
 change aI at u;change aI at v;change aI at w
 refine iO (let x0z:=(zF (iJ 1)::u::v::w::aH aI);let x1z:=((bif !aI.ok u then true else !aI.ok v)==false);((aI.n u<=999999999/\aI.m u<=999999999)/\(((!aI.ok u)==false)=true->((!aI.ok u)==false)=true/\(aI.n v<=999999999/\aI.m v<=999999999)/\True)/\(((!aI.ok u)==false)=true->((!aI.ok u)==false)=true/\True)/\((!aI.ok u)=false->((!aI.ok u)==false)=true)/\(x1z=true->x1z=true/\(aI.n w<=999999999/\aI.m w<=999999999)/\True)/\(x1z=true->x1z=true/\True)/\((bif !aI.ok u then true else !aI.ok v)=false->x1z=true)/\True)/\ifB (bif bif !aI.ok u then true else !aI.ok v then true else !aI.ok w) (True/\(0,0,0,0,())=Prod.fst (GV u v w)/\True/\1=Prod.fst (Prod.snd (GV u v w))/\True) ((bW 1/\((asT Bool true=true/\True)/\(aI.ok u=true/\True)/\(aI.ok v=true/\True)/\(aI.ok w=true/\True)/\True)/\(List.length (List.map (fun(x:Ty.den (Ty.lf Lf.iH))=>aI.x x) x0z)=4/\(∀ (j:Nat),j<4->rsz (qL (List.map (fun(x:Ty.den (Ty.lf Lf.iH))=>aI.x x) x0z) j)<=50000000)/\∃ (j:Nat),j<4/\qL (List.map (fun(x:Ty.den (Ty.lf Lf.iH))=>aI.x x) x0z) j≠0)/\True)/\True/\(Prod.fst (Prod.fst (aX (aV (qL (List.map (fun(x:Ty.den (Ty.lf Lf.iH))=>aI.x x) x0z))))),Prod.fst (Prod.snd (Prod.fst (aX (aV (qL (List.map (fun(x:Ty.den (Ty.lf Lf.iH))=>aI.x x) x0z)))))),Prod.fst (Prod.snd (Prod.snd (Prod.fst (aX (aV (qL (List.map (fun(x:Ty.den (Ty.lf Lf.iH))=>aI.x x) x0z))))))),Prod.fst (Prod.snd (Prod.snd (Prod.snd (Prod.fst (aX (aV (qL (List.map (fun(x:Ty.den (Ty.lf Lf.iH))=>aI.x x) x0z)))))))),())=Prod.fst (GV u v w)/\True/\Prod.fst (Prod.snd (aX (aV (qL (List.map (fun(x:Ty.den (Ty.lf Lf.iH))=>aI.x x) x0z)))))=Prod.fst (Prod.snd (GV u v w))/\True)) (by kernel_rfl) ?_
 obtain⟨hu,hv,hw⟩:=hp
 dsimp only[aB,asT,aA,aH,iJ,aI.n,aI.m] at *
 simp only[gU,true_and,and_true,imp_self,Bool.not_eq_true',Bool.not_eq_false',beq_iff_eq,b6d]
 obtain⟨u1,u2,u3⟩:=id hu
 refine⟨⟨⟨by omega,by omega⟩,fun h=>⟨h,by have:=hv.1;omega,by have:=hv.2.1;omega⟩,fun h=>⟨h,by have:=hw.1;omega,by have:=hw.2.1;omega⟩⟩,fun h=>?_,fun h=>?_⟩
 ·have:¬ (u.ok=true/\v.ok=true/\w.ok=true):=by rintro⟨a,b,c⟩;rw[a,b,c] at h;cases h
  rw[show GV u v w=((0,0,0,0,()),1,()) from if_neg this];exact⟨rfl,rfl⟩
 ·have a:u.ok=true/\v.ok=true/\w.ok=true:=by revert h;cases u.ok<;>cases v.ok<;>cases w.ok<;>simp
  rw[show GV u v w=aX (aV (qL [((1:Int):Rat),u.x,v.x,w.x])) from if_pos a]
  exact⟨⟨by unfold bW;omega,a,a3H hu hv hw⟩,rfl,rfl⟩
noncomputable def LI3:Lib:=LI2.add 39 a9v a0R
def b5U:Ctr:=⟨[.list tR],[tB],fun x=>(show List aI from x.1).length<=1000/\∀ q ∈ (show List aI from x.1),q.n<=1000000000/\q.m<=1000000000,fun x=>((show List aI from x.1).all (·.ok),())⟩
theorem a1L {α:Type} {p:α->Bool} {xs:List α} {i:Nat} {d:α} (hi:i<xs.length) (h:p (xs.getD i d)=false):xs.all p=false:=by
 rw[List.all_eq_false]
 refine⟨xs.getD i d,?_,by rw[h];decide⟩
 rw[List.getD_eq_getElem?_getD,List.getElem?_eq_getElem hi]
 exact List.getElem_mem hi
theorem xR {α:Type} {p:α->Bool} {xs:List α} {i:Nat} {d:α} (hi:i<xs.length):(xs.take (i+1)).all p=((xs.take i).all p&&p (xs.getD i d)):=by
 rw[List.take_add_one,List.all_append,List.getD_eq_getElem?_getD,List.getElem?_eq_getElem hi]
 simp
theorem RV:dG Tryz.prog 83 b5U:=by
 refine fF LI3 [4] Tryz.func83 rfl (by decide) (fun x=>[.inv {k:Nat // k<=(show List aI from x.1).length/\((show List aI from x.1).take k).all (·.ok)=true} (fun k=>[(7,.val tI (k.1:Int))]) (fun k=>[]) (fun k=>(show List aI from x.1).length-k.1) ⟨0,by omega,rfl⟩ (fun _=>[])]) (fun x hp=>?_)
 obtain⟨x,u⟩:=x
 change List aI at x
 refine iO ((asT Int 0=0/\True)/\∀ (i:{ k:Nat // k<=List.length x/\(List.all (List.take k x) fun(x:aI)=>aI.ok x)=true }),asT Bool true=true/\ifB (decide (aB (aA i)<aB (List.length x))) ((0<=aB (aA i)/\aB (aA i)<aB (List.length x)/\True)/\((aI.n (List.getD x (Int.toNat (aB (aA i))) { ok:=false,x:=0,g:=aH Nat,h:=aH Nat })<=1000000000/\aI.m (List.getD x (Int.toNat (aB (aA i))) { ok:=false,x:=0,g:=aH Nat,h:=aH Nat })<=1000000000)/\True)/\ifB (!aI.ok (List.getD x (Int.toNat (aB (aA i))) { ok:=false,x:=0,g:=aH Nat,h:=aH Nat })) (True/\(false=List.all x fun(x:aI)=>aI.ok x)/\True) (∃ (i':{ k:Nat // k<=List.length x/\(List.all (List.take k x) fun(x:aI)=>aI.ok x)=true }),List.length x-aA i'<List.length x-aA i/\IntKind.wrap IntKind.i64 (aB (aA i)+1)=aB (aA i')/\True)) (True/\(true=List.all x fun(x:aI)=>aI.ok x)/\True)) (by kernel_rfl) ?_
 obtain⟨hl,hb⟩:=hp
 have hZ:(⟨false,0,[],[]⟩:aI)=dJ:=rfl
 dsimp only[aB,asT,aA,aH] at *
 simp only[hZ,Int.toNat_natCast,gU,decide_eq_true_eq,decide_eq_false_iff_not,true_and,and_true,Bool.not_eq_true',Bool.not_eq_false']
 refine fun i=>⟨fun h1=>⟨⟨by omega,h1⟩,jC (p:=fun q:aI=>q.n<=1000000000/\q.m<=1000000000) hb (by omega),fun h2=>?_,fun h2=>⟨⟨i.1+1,by omega,?_⟩,by simp only;omega,?_⟩⟩,fun h1=>?_⟩
 ·rw[a1L (d:=dJ) (by omega) h2]
 ·rw[xR (d:=dJ) (by omega),i.2.2,h2];rfl
 ·rw[dV (by omega) (by omega)];rfl
 ·have h3:=i.2.2
  rw[List.take_of_length_le (by omega)] at h3
  exact h3.symm
noncomputable def LI4:Lib:=(LI3.add 83 b5U RV).add 51 cIR (a6U fun x w h=>kC x w h.1 h.2)
theorem a1Q:dG Tryz.prog 38 a9v:=by
 refine fF LI4 [6] Tryz.func38 rfl (by decide) (fun x=>[]) (fun x hp=>?_)
 obtain⟨u,v,w,t⟩:=x
 change aI at u;change aI at v;change aI at w
 refine iO (let x0z:=(zF (iJ 1)::u::v::w::aH aI);((List.length (u::v::w::aH aI)<=1000/\∀ (q:aI),q ∈ u::v::w::aH aI->aI.n q<=1000000000/\aI.m q<=1000000000)/\True)/\ifB (!List.all (u::v::w::aH aI) fun(x:aI)=>aI.ok x) (True/\(0,0,0,0,())=Prod.fst (GV u v w)/\True/\1=Prod.fst (Prod.snd (GV u v w))/\True) ((bW 1/\((asT Bool true=true/\True)/\(aI.ok u=true/\True)/\(aI.ok v=true/\True)/\(aI.ok w=true/\True)/\True)/\(List.length (List.map (fun(x:Ty.den (Ty.lf Lf.iH))=>aI.x x) x0z)=4/\(∀ (j:Nat),j<4->rsz (qL (List.map (fun(x:Ty.den (Ty.lf Lf.iH))=>aI.x x) x0z) j)<=50000000)/\∃ (j:Nat),j<4/\qL (List.map (fun(x:Ty.den (Ty.lf Lf.iH))=>aI.x x) x0z) j≠0)/\True)/\True/\(Prod.fst (Prod.fst (aX (aV (qL (List.map (fun(x:Ty.den (Ty.lf Lf.iH))=>aI.x x) x0z))))),Prod.fst (Prod.snd (Prod.fst (aX (aV (qL (List.map (fun(x:Ty.den (Ty.lf Lf.iH))=>aI.x x) x0z)))))),Prod.fst (Prod.snd (Prod.snd (Prod.fst (aX (aV (qL (List.map (fun(x:Ty.den (Ty.lf Lf.iH))=>aI.x x) x0z))))))),Prod.fst (Prod.snd (Prod.snd (Prod.snd (Prod.fst (aX (aV (qL (List.map (fun(x:Ty.den (Ty.lf Lf.iH))=>aI.x x) x0z)))))))),())=Prod.fst (GV u v w)/\True/\Prod.fst (Prod.snd (aX (aV (qL (List.map (fun(x:Ty.den (Ty.lf Lf.iH))=>aI.x x) x0z)))))=Prod.fst (Prod.snd (GV u v w))/\True)) (by kernel_rfl) ?_
 obtain⟨hu,hv,hw⟩:=hp
 dsimp only[aB,asT,aA,aH,iJ,aI.n,aI.m] at *
 simp only[gU,true_and,and_true,imp_self,Bool.not_eq_true',Bool.not_eq_false',beq_iff_eq,b6d]
 obtain⟨u1,u2,u3⟩:=id hu
 refine⟨⟨by show 3<=1000;omega,fun q hq=>?_⟩,fun h=>?_,fun h=>?_⟩
 ·simp only[List.mem_cons,List.not_mem_nil,or_false] at hq
  rcases hq with rfl|rfl|rfl
  ·exact⟨by omega,by omega⟩
  ·exact⟨by have:=hv.1;omega,by have:=hv.2.1;omega⟩
  ·exact⟨by have:=hw.1;omega,by have:=hw.2.1;omega⟩
 ·have:¬ (u.ok=true/\v.ok=true/\w.ok=true):=by rintro⟨a,b,c⟩;simp[a,b,c] at h
  rw[show GV u v w=((0,0,0,0,()),1,()) from if_neg this];exact⟨rfl,rfl⟩
 ·have a:u.ok=true/\v.ok=true/\w.ok=true:=by simpa using h
  rw[show GV u v w=aX (aV (qL [((1:Int):Rat),u.x,v.x,w.x])) from if_pos a]
  exact⟨⟨by unfold bW;omega,a,a3H hu hv hw⟩,rfl,rfl⟩
noncomputable def LI5:Lib:=LI4.add 38 a9v a1Q
def b5Y:Ctr:=⟨[tR],[tB],fun x=>True,fun x=>(decide ((show aI from x.1).n<=2/\(show aI from x.1).m<=2),())⟩
theorem a6l:dG Tryz.prog 13 b5Y:=by
 refine fF LI5 [] Tryz.func13 rfl (by decide) (fun x=>[]) (fun x hp=>?_)
 obtain⟨q,u⟩:=x
 change aI at q
 refine iO (let x0z:=(decide (aB (List.length (aI.g q))<=2)==true);((x0z=true->x0z=true/\True)/\(x0z=true->x0z=true/\True)/\(x0z=true->x0z=true/\True)/\(x0z=true->x0z=true/\True)/\(decide (aB (List.length (aI.g q))<=2)=true->x0z=true)/\True)/\True/\(bif decide (aB (List.length (aI.g q))<=2) then decide (aB (List.length (aI.h q))<=2) else false)=decide (aI.n q<=2/\aI.m q<=2)/\True) (by kernel_rfl) ?_
 dsimp only[aB,aI.n,aI.m] at *
 simp only[true_and,and_true,imp_self,beq_iff_eq,decide_eq_true_eq]
 by_cases h1:q.g.length<=2
 ·by_cases h2:q.h.length<=2
  ·rw[decide_eq_true (p:=(q.g.length:Int)<=2) (by omega),decide_eq_true (p:=(q.h.length:Int)<=2) (by omega),decide_eq_true (p:=q.g.length<=2/\q.h.length<=2) ⟨h1,h2⟩];rfl
  ·rw[decide_eq_false (p:=(q.h.length:Int)<=2) (by omega),decide_eq_false (p:=q.g.length<=2/\q.h.length<=2) (fun h=>h2 h.2)];cases decide ((q.g.length:Int)<=2)<;>rfl
 ·rw[decide_eq_false (p:=(q.g.length:Int)<=2) (by omega),decide_eq_false (p:=q.g.length<=2/\q.h.length<=2) (fun h=>h1 h.1)];rfl
noncomputable def LI6:Lib:=LI5.add 13 b5Y a6l
end Go.Proofs.YtidfgdchcpmnfaaGreat
