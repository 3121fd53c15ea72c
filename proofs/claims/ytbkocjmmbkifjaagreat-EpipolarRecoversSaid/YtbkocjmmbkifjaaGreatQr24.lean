/-
  Lemmas for the theorem vrecovers28_holds, part 24 of 35.
-/
import Derived.Lib.AppendZerosOnto
import Derived.Lib.Walk
import Derived.Test.YtbkocjmmbkifjaaGreatQr23
namespace Go.Proofs.YtbkocjmmbkifjaaGreat
open Go Go.RowKit
set_option maxRecDepth 100000
set_option maxHeartbeats 1000000
set_option linter.unusedVariables false
set_option linter.unusedSimpArgs false
theorem xJ {α:Type} {p:α->Bool} {xs:List α} {i:Nat} {d:α} (hi:i<xs.length) (h:p (xs.getD i d)=true):xs.any p=true:=by
 rw[jc,iy hi] at h
 exact Em.mpr ⟨_,xg hi,h⟩
def iH (n:Int):Bool:=decide (n > 1048576) || decide (n < -1048576)
abbrev b6n:Ty:=.pair tI (.pair tI .unit)
abbrev KG:Ty:=.pair b6n (.pair b6n .unit)
abbrev dA:Type:=(Int × Int × Unit) × (Int × Int × Unit) × Unit
def jQ:dA:=(((0:Int),(0:Int),()),((0:Int),(0:Int),()),())
def RP (p:dA):Bool:=[p.1.1,p.1.2.1,p.2.1.1,p.2.1.2.1].any iH
noncomputable def c5f:Ctr:=⟨[tI],[tB],fun x=>True,fun x=>(iH x.1,())⟩
noncomputable def c3a:Ctr:=⟨[.list tI],[tB],fun x=>(show List Int from x.1).length<=1000000,fun x=>((show List Int from x.1).any iH,())⟩
theorem a5v:aI Tryz.prog 224 c5f:=by
 refine aJ Lib.nil ⟨[],[],[]⟩ Tryz.func224 rfl (by decide) (fun x=>[]) (fun x hp=>?_)
 obtain⟨n,u⟩:=x
 change Int at n
 refine aT ((((decide (n < -1048576)==false)=true->(decide (n < -1048576)==false)=true/\True)/\(decide (n < -1048576)=false->(decide (n < -1048576)==false)=true)/\True)/\True/\(bif decide (n < -1048576) then true else decide (n > 1048576))=iH n/\True) (by kernel_rfl) ?_
 have hZ:(⟨false,0,[],[]⟩:aH)=bC:=rfl
 try simp only[aC,aj,ah]
 try dsimp only[aB,asT,aA,aF,Ty.den,Lf.den] at *
 try simp only[hZ,Int.toNat_natCast,aC,aj,ah,jg,jf,gy,bg]
 try simp only[bT,bP,List.all_cons,List.all_nil,jh,dw,ig,je,jy,ne_eq,au,bn,dh,eu,jd,oh,jo,oq,jg,jf,iw,bf,List.length_cons,List.length_nil]
 exact⟨fun h=>lg h,Bool.or_comm _ _⟩
theorem JD:aI Tryz.prog 15 c3a:=by
 refine aJ Lib.nil ⟨[],[],[]⟩ Tryz.func15 rfl (by decide) (fun x=>[.inv {k:Nat // k<=(show List Int from x.1).length/\((show List Int from x.1).take k).any iH=false} (fun k=>[(7,.val tI (k.1:Int))]) (fun k=>[]) (fun k=>(show List Int from x.1).length-k.1) ⟨0,by omega,rfl⟩ (fun _=>[])]) (fun x hp=>?_)
 obtain⟨x,u⟩:=x
 change List Int at x
 refine aT ((asT Int 0=0/\True)/\∀ (i:{ k:Nat // k<=List.length x/\List.any (List.take k x) iH=false }),let A₀:=(List.getD x (aB (aA i)).toNat 0 > 1048576);asT Bool true=true/\ifB (decide (aB (aA i)<aB x.length)) ((0<=aB (aA i)/\aB (aA i)<aB x.length/\True)/\(((decide A₀==false)=true->(decide A₀==false)=true/\True)/\(decide A₀=false->(decide A₀==false)=true)/\True)/\ifB (bif decide A₀ then true else decide (List.getD x (aB (aA i)).toNat 0 < -1048576)) (True/\true=List.any x iH/\True) (∃ (i':{ k:Nat // k<=List.length x/\List.any (List.take k x) iH=false }),List.length x-aA i'<List.length x-aA i/\IntKind.wrap IntKind.i64 (aB (aA i)+1)=aB (aA i')/\True)) (True/\false=List.any x iH/\True)) (by kernel_rfl) ?_
 have hZ:(⟨false,0,[],[]⟩:aH)=bC:=rfl
 try simp only[aC,aj,ah]
 try dsimp only[aB,asT,aA,aF,Ty.den,Lf.den] at *
 try simp only[hZ,Int.toNat_natCast,aC,aj,ah,jg,jf,gy,bg]
 try simp only[bT,bP,List.all_cons,List.all_nil,jh,dw,ig,je,jy,ne_eq,au,bn,dh,eu,jd,oh,jo,oq,jg,jf,iw,bf,List.length_cons,List.length_nil]
 have hp:x.length<=1000000:=hp
 refine fun i=>⟨fun h1=>⟨⟨by omega,h1⟩,fun h=>lg h,fun h=>?_,fun h=>⟨⟨i.1+1,by omega,?_⟩,by simp only;omega,?_⟩⟩,fun h1=>?_⟩
 ·exact(xJ (i:=i.1) (d:=0) (by omega) (by unfold iH;rcases h with h|h<;>rw[h]<;>simp)).symm
 ·rw[iM (d:=0) (by omega),i.2.2]
  show (false || iH _)=false
  unfold iH;rw[h.1,h.2];rfl
 ·rw[aN (by omega) (by omega)];rfl
 ·have h3:=i.2.2
  rw[jv (by omega)] at h3
  exact h3.symm
noncomputable def c3d:Ctr:=⟨[.list tI,.clo 224 .unit],[tI],fun x=>(show List (Int) from x.1).length<=1000000/\∀ q ∈ (show List (Int) from x.1),(fun _=>True) q,fun x=>(lW iH (show List (Int) from x.1),())⟩
theorem b0I:aI Tryz.prog 218 c3d:=by
 refine aJ (nil0.ad a5v) ⟨[],[],[]⟩ Tryz.func218 rfl (by decide) (fun x=>[.inv {k:Nat // k<=(show List (Int) from x.1).length/\((show List (Int) from x.1).take k).any iH=false} (fun k=>[(8,.val tI (k.1:Int))]) (fun k=>[]) (fun k=>(show List (Int) from x.1).length-k.1) ⟨0,by omega,rfl⟩ (fun _=>[])]) (fun x hp=>?_)
 obtain⟨x,c,u⟩:=x
 change List (Int) at x
 change Unit at c
 refine aT ((asT Int 0=0/\True)/\∀ (i:{ k:Nat // k<=List.length x/\List.any (List.take k x) iH=false }),asT Bool true=true/\ifB (decide (aB (aA i)<aB x.length)) ((0<=aB (aA i)/\aB (aA i)<aB x.length/\True/\True)/\ifB (iH (List.getD x (aB (aA i)).toNat 0)) (True/\aB (aA i)=lW iH x/\True) (∃ (i':{ k:Nat // k<=List.length x/\List.any (List.take k x) iH=false }),List.length x-aA i'<List.length x-aA i/\IntKind.wrap IntKind.i64 (aB (aA i)+1)=aB (aA i')/\True)) (True/\-1=lW iH x/\True)) (by kernel_rfl) ?_
 have hZ:(⟨false,0,[],[]⟩:aH)=bC:=rfl
 try simp only[aC,aj,ah]
 try dsimp only[aB,asT,aA,aF,Ty.den,Lf.den] at *
 try simp only[hZ,Int.toNat_natCast,aC,aj,ah,jg,jf,gy,bg]
 try simp only[bT,bP,List.all_cons,List.all_nil,jh,dw,ig,je,jy,ne_eq,au,bn,dh,eu,jd,oh,jo,oq,jg,jf,iw,bf,List.length_cons,List.length_nil]
 have hp:x.length<=1000000/\∀ q ∈ x,(fun _=>True) q:=hp
 obtain⟨hl,hb⟩:=hp
 refine fun i=>⟨fun h1=>⟨(by first|exact⟨by omega,h1,bV hb (by omega)⟩|exact⟨by omega,h1⟩),fun h2=>?_,fun h2=>⟨⟨i.1+1,by omega,?_⟩,by simp only;omega,?_⟩⟩,fun h1=>?_⟩
 ·exact(uH (d:=0) (by omega) i.2.2 (by first|exact h2|rw[h2];rfl)).symm
 ·rw[iM (d:=0) (by omega),i.2.2,h2];rfl
 ·rw[aN (by omega) (by omega)];rfl
 ·have h3:=i.2.2
  rw[jv (by omega)] at h3
  exact(xU h3).symm
noncomputable def c2N:Ctr:=⟨[.list tI,.clo 224 .unit],[tB],fun x=>(show List (Int) from x.1).length<=1000000/\∀ q ∈ (show List (Int) from x.1),(fun _=>True) q,fun x=>((show List (Int) from x.1).any iH,())⟩
theorem a9r:aI Tryz.prog 136 c2N:=by
 refine aJ ((nil0.ad a5v).ad b0I) ⟨[],[],[]⟩ Tryz.func136 rfl (by decide) (fun x=>[]) (fun x hp=>?_)
 obtain⟨x,c,u⟩:=x
 change List (Int) at x
 change Unit at c
 refine aT (((List.length x<=1000000/\∀ (q:Int),q ∈ x->True)/\True)/\True/\decide (lW iH x ≥ 0)=List.any x iH/\True) (by kernel_rfl) ?_
 exact⟨⟨hp,trivial⟩,trivial,uI _ _,trivial⟩
theorem a2C:aI Tryz.prog 144 c3a:=by
 refine aJ (nil0.ad a9r) ⟨[],[],[]⟩ Tryz.func144 rfl (by decide) (fun x=>[]) (fun x hp=>?_)
 obtain⟨x,u⟩:=x
 change List Int at x
 refine aT (((List.length x<=1000000/\∀ (q:Int),q ∈ x->True)/\True)/\True/\List.any x iH=List.any x iH/\True) (by kernel_rfl) ?_
 exact⟨⟨⟨hp,fun _ _=>trivial⟩,trivial⟩,trivial,rfl,trivial⟩
def xA (l:List dA):Int:=bif l.any RP then 2 else 0
noncomputable def c5H:Ctr:=⟨[.list KG],[tI],fun x=>(show List dA from x.1).length<=1000000,fun x=>(xA x.1,())⟩
theorem a7X:aI Tryz.prog 116 c5H:=by
 refine aJ (nil0.ad a2C) ⟨[4],[],[]⟩ Tryz.func116 rfl (by decide) (fun x=>[.inv {k:Nat // k<=(show List dA from x.1).length/\((show List dA from x.1).take k).any RP=false} (fun k=>[(7,.val tI (k.1:Int))]) (fun k=>[]) (fun k=>(show List dA from x.1).length-k.1) ⟨0,by omega,rfl⟩ (fun _=>[])]) (fun x hp=>?_)
 obtain⟨x,u⟩:=x
 change List dA at x
 refine aT ((asT Int 0=0/\True)/\∀ (i:{ k:Nat // k<=List.length x/\List.any (List.take k x) RP=false }),let A₁:=(List.getD x (aB (aA i)).toNat jQ);let A₀:=(Prod.fst A₁.1::Prod.fst A₁.1.2::Prod.fst A₁.2.1::Prod.fst A₁.2.1.2::aF Int);asT Bool true=true/\ifB (decide (aB (aA i)<aB x.length)) ((0<=aB (aA i)/\aB (aA i)<aB x.length/\True)/\(List.length A₀<=1000000/\True)/\ifB (List.any A₀ iH) (True/\2=xA x/\True) (∃ (i':{ k:Nat // k<=List.length x/\List.any (List.take k x) RP=false }),List.length x-aA i'<List.length x-aA i/\IntKind.wrap IntKind.i64 (aB (aA i)+1)=aB (aA i')/\True)) (True/\0=xA x/\True)) (by kernel_rfl) ?_
 have hZ:(⟨false,0,[],[]⟩:aH)=bC:=rfl
 try simp only[aC,aj,ah]
 try dsimp only[aB,asT,aA,aF,Ty.den,Lf.den] at *
 try simp only[hZ,Int.toNat_natCast,aC,aj,ah,jg,jf,gy,bg]
 try simp only[bT,bP,List.all_cons,List.all_nil,jh,dw,ig,je,jy,ne_eq,au,bn,dh,eu,jd,oh,jo,oq,jg,jf,iw,bf,List.length_cons,List.length_nil]
 have hp:x.length<=1000000:=hp
 refine fun i=>⟨fun h1=>⟨⟨by omega,h1⟩,by omega,fun h=>?_,fun h=>⟨⟨i.1+1,by omega,?_⟩,by simp only;omega,?_⟩⟩,fun h1=>?_⟩
 ·unfold xA;rw[xJ (p:=RP) (i:=i.1) (d:=jQ) (by omega) h];rfl
 ·rw[iM (d:=jQ) (by omega),i.2.2];exact(Bool.false_or _).trans h
 ·rw[aN (by omega) (by omega)];rfl
 ·have h3:=i.2.2
  rw[jv (by omega)] at h3
  unfold xA;rw[h3];rfl
set_option maxHeartbeats 4000000
theorem OE {l:List Nat} (k:Nat):val (l.drop k)<=val l:=by
 have e:=val_append (l.take k) (l.drop k)
 rw[Aw] at e
 have h1:1<=BB ^ (l.take k).length:=Nat.pow_pos fV
 have h2:val (l.drop k)<=BB ^ (l.take k).length*val (l.drop k):=Nat.le_mul_of_pos_left _ h1
 omega
theorem XE (x:Int) (h0:-9223372036854775808<=x) (h1:x<=9223372036854775807):isz x<=999999999 :=
 jl (uN (k:=3) (by rw[bK];omega)) (by omega)
theorem tK {z:Int} (h0:-9223372036854775808<=z) (h1:z<=9223372036854775807):IntKind.i64.wrap z=z:=by simp[IntKind.wrap,IntKind.bits,IntKind.signed];omega
theorem c4A {x:Int} (h:-9223372036854775808<=x/\x<=9223372036854775807):dX x=x/\eH x=true:=by
 unfold dX eH
 rw[jq (by omega)]
 exact⟨rfl,by simp;omega⟩
theorem b2T {x:Int} (h:¬ (-9223372036854775808<=x/\x<=9223372036854775807)):dX x=0/\eH x=false:=by
 unfold dX eH
 rw[ji (by omega)]
 exact⟨rfl,by simp;omega⟩
theorem a4o (v:Value) (x:Int) (w:World) (hv:Raw w v x) (hl:isz x<=999999999) (h:x < -9223372036854775808) :
  Calls Tryz.prog 223 #[v] w fun e W'=>e=.returned (.tuple #[.int .i64 (dX x),.bool (eH x)])/\Below w.heap.size w W':=by
 obtain⟨b,p,n,c,rfl⟩:=hv.form
 have hl1:isz x<=1000000000:=by omega
 have hm1:isz (-9223372036854775808)<=999999999:=XE _ (by omega) (by omega)
 have hm2:isz 9223372036854775807<=999999999:=XE _ (by omega) (by omega)
 have HF:=iq (b2T (x:=x) (by omega))
 have d1:bZ x (-9223372036854775808)=-1:=by unfold bZ;rw[jq (by omega)]
 have HC1:=iq d1
 have HC2:=iq (show bZ x 9223372036854775807=bZ x 9223372036854775807 from rfl)
 clear d1 h
 have kS:Below w.heap.size w w:=jk _ _
 go_enter Tryz.func223,Tryz.ntmps223
 go_wp2_with fail
 obtain⟨hA1,b0⟩:=bx1 w rfl [.bool b,.slice p n c] 45
 have c0:=(hv.below hA1)
 (with_reducible refine(gV _ (x) _ c0 hl1).mono ?_)
 rintro e w1 ⟨v1,rfl,hi1,hb1⟩
 obtain⟨g1,p1,n1,c1,rfl⟩:=hi1.form
 obtain rfl:n1=(dig x.natAbs).length:=hi1.len
 have hf1:=iq (dK.flag hi1)
 have iJ:=(b0.to hb1)
 obtain⟨h0,l0,j0,m0⟩:=iJ.cf2
 go_wp2_with fail
 (with_reducible refine(yJ _ _ (by omega) (by omega)).mono ?_)
 rintro e w2 ⟨v2,rfl,hi2,hb2⟩
 obtain⟨g2,p2,n2,c2,rfl⟩:=hi2.form
 go_wp2_with fail
 (with_reducible refine(yJ _ _ (by omega) (by omega)).mono ?_)
 rintro e w3 ⟨v3,rfl,hi3,hb3⟩
 obtain⟨g3,p3,n3,c3,rfl⟩:=hi3.form
 have BM:=(((iJ.store2 (.bool g1) (.slice p1 (dig x.natAbs).length c1)).to hb2).to hb3)
 obtain⟨i0,k0⟩:=BM.cs2
 have n0:=(BM).1
 obtain⟨hA2,p0⟩:=bx1 w3 rfl [.bool false,.slice none 0 0] 45
 have o0:=((BM.to hA2)).1
 go_wp2_with fail
 have f0:=(((hi1.bM iJ rfl rfl (.bool g1) (.slice p1 (dig x.natAbs).length c1)).below hb2).below hb3)
 obtain⟨hA3,q0,r0⟩:=bx2 w3 rfl [.bool g2,.slice p2 n2 c2] 45 [.bool g3,.slice p3 n3 c3] 45
 have d0:=(f0.below hA3).raw
 have g0:=(hi2.below hb3)
 have e0:=(g0.below hA3).raw
 (with_reducible refine(oW _ _ (x) ((-9223372036854775808)) _ d0 e0 hl hm1).mono ?_)
 rw[HC1.out]
 rintro e w4 ⟨rfl,hb4⟩
 have a0:=(Below.tr (Below.tr (Below.tr (Below.tr (Below.bM (Below.tr (Below.tr kS hA1) hb1) (b:=w.heap.size) (by omega) (.bool g1) (.slice p1 (dig x.natAbs).length c1)) hb2) hb3) hA3) hb4)
 go_wp2_with fail
 go_ret2
 exact⟨by rw[HF.out.1,HF.out.2];rfl,a0⟩
theorem a2O (v:Value) (x:Int) (w:World) (hv:Raw w v x) (hl:isz x<=999999999) (h:9223372036854775807<x) :
  Calls Tryz.prog 223 #[v] w fun e W'=>e=.returned (.tuple #[.int .i64 (dX x),.bool (eH x)])/\Below w.heap.size w W':=by
 obtain⟨b,p,n,c,rfl⟩:=hv.form
 have hl1:isz x<=1000000000:=by omega
 have hm1:isz (-9223372036854775808)<=999999999:=XE _ (by omega) (by omega)
 have hm2:isz 9223372036854775807<=999999999:=XE _ (by omega) (by omega)
 have HF:=iq (b2T (x:=x) (by omega))
 have HC1:Hid (bZ x (-9223372036854775808)=1):=by unfold Hid bZ;rw[ji (by omega),jq (by omega)]
 have HC2:Hid (bZ x 9223372036854775807=1):=by unfold Hid bZ;rw[ji (by omega),jq (by omega)]
 clear h
 have kS:Below w.heap.size w w:=jk _ _
 go_enter Tryz.func223,Tryz.ntmps223
 go_wp2_with fail
 obtain⟨hA1,e0⟩:=bx1 w rfl [.bool b,.slice p n c] 45
 have g0:=(hv.below hA1)
 (with_reducible refine(gV _ (x) _ g0 hl1).mono ?_)
 rintro e w1 ⟨v1,rfl,hi1,hb1⟩
 obtain⟨g1,p1,n1,c1,rfl⟩:=hi1.form
 obtain rfl:n1=(dig x.natAbs).length:=hi1.len
 have hf1:=iq (dK.flag hi1)
 have iJ:=(e0.to hb1)
 obtain⟨o0,u0,r0,v0⟩:=iJ.cf2
 go_wp2_with fail
 (with_reducible refine(yJ _ _ (by omega) (by omega)).mono ?_)
 rintro e w2 ⟨v2,rfl,hi2,hb2⟩
 obtain⟨g2,p2,n2,c2,rfl⟩:=hi2.form
 go_wp2_with fail
 (with_reducible refine(yJ _ _ (by omega) (by omega)).mono ?_)
 rintro e w3 ⟨v3,rfl,hi3,hb3⟩
 obtain⟨g3,p3,n3,c3,rfl⟩:=hi3.form
 have BM:=(((iJ.store2 (.bool g1) (.slice p1 (dig x.natAbs).length c1)).to hb2).to hb3)
 obtain⟨p0,s0⟩:=BM.cs2
 have x0:=(BM).1
 obtain⟨hA2,z0⟩:=bx1 w3 rfl [.bool false,.slice none 0 0] 45
 have y0:=((BM.to hA2)).1
 go_wp2_with fail
 have a0:=(((hi1.bM iJ rfl rfl (.bool g1) (.slice p1 (dig x.natAbs).length c1)).below hb2).below hb3)
 obtain⟨hA3,a1,f0⟩:=bx2 w3 rfl [.bool g2,.slice p2 n2 c2] 45 [.bool g3,.slice p3 n3 c3] 45
 have h0:=(a0.below hA3).raw
 have m0:=(hi2.below hb3)
 have i0:=(m0.below hA3).raw
 (with_reducible refine(oW _ _ (x) ((-9223372036854775808)) _ h0 i0 hl hm1).mono ?_)
 rw[HC1.out]
 rintro e w4 ⟨rfl,hb4⟩
 have b5E:=((BM.to hA3).to hb4)
 obtain⟨q0,t0⟩:=b5E.cs2
 have w0:=(f0.to hb4)
 obtain⟨c0,d0⟩:=w0.cs2
 go_wp2_with fail
 have l0:=((a0.below hA3).below hb4)
 have j0:=l0.raw
 have n0:=((hi3.below hA3).below hb4)
 have k0:=n0.raw
 (with_reducible refine(oW _ _ (x) (9223372036854775807) _ j0 k0 hl hm2).mono ?_)
 rw[HC2.out]
 rintro e w5 ⟨rfl,hb5⟩
 have b0:=(Below.tr (Below.tr (Below.tr (Below.tr (Below.tr (Below.bM (Below.tr (Below.tr kS hA1) hb1) (b:=w.heap.size) (by omega) (.bool g1) (.slice p1 (dig x.natAbs).length c1)) hb2) hb3) hA3) hb4) hb5)
 go_wp2_with fail
 go_ret2
 exact⟨by rw[HF.out.1,HF.out.2];rfl,b0⟩
theorem a8r (v:Value) (x:Int) (w:World) (hv:Raw w v x) (hl:isz x<=999999999) (h:-9223372036854775808<=x/\x<=9223372036854775807) :
  Calls Tryz.prog 223 #[v] w fun e W'=>e=.returned (.tuple #[.int .i64 (dX x),.bool (eH x)])/\Below w.heap.size w W':=by
 obtain⟨b,p,n,c,rfl⟩:=hv.form
 have hl1:isz x<=1000000000:=by omega
 have hm1:isz (-9223372036854775808)<=999999999:=XE _ (by omega) (by omega)
 have hm2:isz 9223372036854775807<=999999999:=XE _ (by omega) (by omega)
 have HF:=iq (c4A h)
 have HR:=iq h
 obtain⟨cc,hcc⟩:∃ cc,bZ x (-9223372036854775808)=cc:=⟨_,rfl⟩
 obtain⟨cd,hcd⟩:∃ cd,bZ x 9223372036854775807=cd:=⟨_,rfl⟩
 have HC1:=iq hcc
 have HC2:=iq hcd
 have d1:decide (cc<0)=false:=by
  have:0<=cc:=by rw[<-hcc];unfold bZ;rw[ji (by omega)];split<;>omega
  simp;omega
 have d2:decide (0<cd)=false:=by
  have:cd<=0:=by rw[<-hcd];unfold bZ;split<;>(try split)<;>omega
  simp;omega
 clear hcc hcd h
 have kS:Below w.heap.size w w:=jk _ _
 go_enter Tryz.func223,Tryz.ntmps223
 go_wp2_with fail
 obtain⟨hA1,i0⟩:=bx1 w rfl [.bool b,.slice p n c] 45
 have k0:=(hv.below hA1)
 (with_reducible refine(gV _ (x) _ k0 hl1).mono ?_)
 rintro e w1 ⟨v1,rfl,hi1,hb1⟩
 obtain⟨g1,p1,n1,c1,rfl⟩:=hi1.form
 obtain rfl:n1=(dig x.natAbs).length:=hi1.len
 have hf1:=iq (dK.flag hi1)
 have iJ:=(i0.to hb1)
 obtain⟨s0,y0,v0,z0⟩:=iJ.cf2
 go_wp2_with fail
 (with_reducible refine(yJ _ _ (by omega) (by omega)).mono ?_)
 rintro e w2 ⟨v2,rfl,hi2,hb2⟩
 obtain⟨g2,p2,n2,c2,rfl⟩:=hi2.form
 go_wp2_with fail
 (with_reducible refine(yJ _ _ (by omega) (by omega)).mono ?_)
 rintro e w3 ⟨v3,rfl,hi3,hb3⟩
 obtain⟨g3,p3,n3,c3,rfl⟩:=hi3.form
 have BM:=(((iJ.store2 (.bool g1) (.slice p1 (dig x.natAbs).length c1)).to hb2).to hb3)
 obtain⟨t0,w0⟩:=BM.cs2
 have b1:=(BM).1
 obtain⟨hA2,i1⟩:=bx1 w3 rfl [.bool false,.slice none 0 0] 45
 have f1:=((BM.to hA2)).1
 go_wp2_with fail
 have a0:=(((hi1.bM iJ rfl rfl (.bool g1) (.slice p1 (dig x.natAbs).length c1)).below hb2).below hb3)
 obtain⟨hA3,j1,j0⟩:=bx2 w3 rfl [.bool g2,.slice p2 n2 c2] 45 [.bool g3,.slice p3 n3 c3] 45
 have l0:=(a0.below hA3).raw
 have q0:=(hi2.below hb3)
 have m0:=(q0.below hA3).raw
 (with_reducible refine(oW _ _ (x) ((-9223372036854775808)) _ l0 m0 hl hm1).mono ?_)
 rw[HC1.out]
 rintro e w4 ⟨rfl,hb4⟩
 have b5E:=((BM.to hA3).to hb4)
 obtain⟨u0,x0⟩:=b5E.cs2
 have a1:=(j0.to hb4)
 obtain⟨f0,g0⟩:=a1.cs2
 go_wp2_with fail
 have b0:=((a0.below hA3).below hb4)
 have n0:=b0.raw
 have r0:=((hi3.below hA3).below hb4)
 have o0:=r0.raw
 (with_reducible refine(oW _ _ (x) (9223372036854775807) _ n0 o0 hl hm2).mono ?_)
 rw[HC2.out]
 rintro e w5 ⟨rfl,hb5⟩
 have c6A:=(b5E.to hb5)
 have p0:=(b0.below hb5)
 have d0:=(Below.tr (Below.tr (Below.tr (Below.tr (Below.tr (Below.bM (Below.tr (Below.tr kS hA1) hb1) (b:=w.heap.size) (by omega) (.bool g1) (.slice p1 (dig x.natAbs).length c1)) hb2) hb3) hA3) hb4) hb5)
 have qq:=c6A
 have qc0:=qq.c0
 have qc1:=qq.c1
 have hRd:=(p0).rd
 have hBB:=d0
 have hlen:(dig x.natAbs).length<=1000000000:=hl1
 have HS:=iq (a0P x)
 go_wp2_with fail
 go_loop [6,7,26,27,28,29,30,31,32,33,34,35,36,37,38,39,40,41,42,43,44,45,46,47,48,49] (fun nn i _ _ _ _ _ _ _ _ _ _ _ _ _ _ _ _ _ _ _ _ _ _ _ _=>∃ (k:Nat) (i' z:Int),i=.int .i64 i'/\k<=(dig x.natAbs).length/\Hid (i'=(k:Int)-1)/\nn=.int .i64 z/\z=sg (decide (x<0)) (val ((dig x.natAbs).drop k))) (fun _ i _ _ _ _ _ _ _ _ _ _ _ _ _ _ _ _ _ _ _ _ _ _ _ _=>(intOf i+1).toNat)
 case atStart=>exact⟨(dig x.natAbs).length,_,0,rfl,ay _,rfl,rfl,by simp[val,sg]⟩
 case round =>
  obtain⟨k,i',z,rfl,hk,hk',rfl,hz⟩:=hrel
  cases k with
  | zero =>
   obtain rfl:i'=-1:=by have:=hk'.out;simpa using this
   have HZ:Hid (z=dX x):=by
    unfold Hid;rw[HF.out.1,hz]
    simp only[List.drop_zero,aU]
    exact HS.out
   clear hz
   go_wp2_with fail
   go_ret2
   exact⟨by rw[HF.out.2,<-HZ.out];rfl,hBB⟩
  | succ k =>
   obtain rfl:i'=(k:Int):=by have:=hk'.out;simp at this;omega
   have hkl:k<(dig x.natAbs).length:=by omega
   obtain⟨ba,oa,rfl,hba,hca⟩:=hRd.at (by intro e;rw[e] at hkl;simp at hkl)
   have hcell:=hca k hkl
   have ga:gr (dig x.natAbs) k<=999999999:=fP (bH _) k
   have h0:(0:Int)<=k:=by omega
   have h1:(k:Int)<(dig x.natAbs).length:=by omega
   obtain⟨v',hvd⟩:∃ v',val ((dig x.natAbs).drop (k+1))=v':=⟨_,rfl⟩
   rw[hvd] at hz
   clear hca
   by_cases hneg:x<0
   ·have hdx:decide (x<0)=true:=um hneg
    obtain rfl:g1=true:=by have:=hf1.out;rw[this];exact hdx
    obtain rfl:z=-(v':Int):=by rw[hz,hdx];simp[sg]
    clear hz
    have HV:Hid (-(val ((dig x.natAbs).drop k):Int)=(-(v':Int))*1000000000-(gr (dig x.natAbs) k:Int)):=by
     have h9:=kG hkl
     rw[bK,hvd] at h9
     show _=_
     omega
    have hb3:(v':Int)*1000000000+gr (dig x.natAbs) k<=9223372036854775808:=by
     have h1:=OE (l:=dig x.natAbs) k
     rw[aU,kG hkl,bK,hvd] at h1
     have:=HR.out
     omega
    have e0:IntKind.i64.wrap (gr (dig x.natAbs) k:Int)=(gr (dig x.natAbs) k:Int):=tK (by omega) (by omega)
    have e1:IntKind.i64.wrap (-(v':Int)*1000000000)=-(v':Int)*1000000000:=tK (by omega) (by omega)
    have e2:IntKind.i64.wrap (-(v':Int)*1000000000-(gr (dig x.natAbs) k:Int))=-(v':Int)*1000000000-(gr (dig x.natAbs) k:Int):=tK (by omega) (by omega)
    clear hvd
    go_wp2_with fail
    go_round
    case rel=>exact⟨k,_,_,rfl,by omega,rfl,rfl,by rw[hdx];simp only[sg,Di,if_false,yj];exact HV.out.symm⟩
    case measure=>simp[intOf]
   ·have hdx:decide (x<0)=false:=lg hneg
    obtain rfl:g1=false:=by have:=hf1.out;rw[this];exact hdx
    obtain rfl:z=(v':Int):=by rw[hz,hdx];simp[sg]
    clear hz
    have HV:Hid ((val ((dig x.natAbs).drop k):Int)=((v':Int))*1000000000+(gr (dig x.natAbs) k:Int)):=by
     have h9:=kG hkl
     rw[bK,hvd] at h9
     show _=_
     omega
    have hb3:(v':Int)*1000000000+gr (dig x.natAbs) k<=9223372036854775807:=by
     have h1:=OE (l:=dig x.natAbs) k
     rw[aU,kG hkl,bK,hvd] at h1
     have:=HR.out
     omega
    have e0:IntKind.i64.wrap (gr (dig x.natAbs) k:Int)=(gr (dig x.natAbs) k:Int):=tK (by omega) (by omega)
    have e1:IntKind.i64.wrap ((v':Int)*1000000000)=(v':Int)*1000000000:=tK (by omega) (by omega)
    have e2:IntKind.i64.wrap ((v':Int)*1000000000+(gr (dig x.natAbs) k:Int))=(v':Int)*1000000000+(gr (dig x.natAbs) k:Int):=tK (by omega) (by omega)
    clear hvd
    go_wp2_with fail
    go_round
    case rel=>exact⟨k,_,_,rfl,by omega,rfl,rfl,by rw[hdx];simp only[sg,Di,if_false,yj];exact HV.out.symm⟩
    case measure=>simp[intOf]
theorem a4n (v:Value) (x:Int) (w:World) (hv:Raw w v x) (hl:isz x<=999999999) :
  Calls Tryz.prog 223 #[v] w fun e W'=>e=.returned (.tuple #[.int .i64 (dX x),.bool (eH x)])/\Below w.heap.size w W':=by
 by_cases h1:x < -9223372036854775808
 ·exact a4o v x w hv hl h1
 by_cases h2:9223372036854775807<x
 ·exact a2O v x w hv hl h2
 ·exact a8r v x w hv hl ⟨by omega,by omega⟩
set_option maxHeartbeats 1000000
noncomputable def LZ:Lib:=(((((((LCa
 ).add 175 cIZ (a3q fun x w h0 h1=>b1C x w h0 h1)
 ).add 213 (cZ2 fun x y=>((Int.gcd x y:Nat):Int)) IU
 ).add 177 (cZ2 fun x y=>x*y) wW
 ).add 97 (cZ1 fun x=>-x) AX
 ).add 179 (cZI Int.sign) rF
 ).add 282 a8Z (a7d fun v x w h1=>a8v v x w h1)
 ).add 229 cDiv SK
noncomputable def LZb:Lib:=((((LZ
 ).add 183 (cNew 1000000000 14) a0d
 ).add 147 a8X a5u
 ).add 172 (cQ1 s4 (fun x=>-x)) a0c
 ).add 176 (cZ2 fun x y=>x+y) a2b
section
open Go Go.RowKit Go.Lib
set_option maxHeartbeats 4000000
abbrev KP:Value:=.agg #[.bool false,.slice none 0 0,.bool false,.slice none 0 0]
theorem a7A:∃ i,Tryz.prog.info? 47=some i/\i.size=4/\i.bytes<=64/\i.zero=some KP:=by
 have h:(Tryz.prog.info? 47).map (fun i=>(i.size,decide (i.bytes<=64),i.zero))=some (4,true,some KP):=by kernel_rfl
 obtain⟨i,h1,h2⟩:=jw.1 h
 simp only[dn,aj] at h2
 exact⟨i,h1,h2.1,h2.2.1,h2.2.2⟩
theorem b0c (n:Nat) (w:World) (h0:0<n) (hn:n<=1000000000):Calls Tryz.prog 151 #[.slice none 0 0,.int .i64 n] w fun e w'=>∃ c,n<=c/\c<=maxLen/\e=.returned (.slice (some ⟨w.heap.size,0,none⟩) 0 c)/\w'=w.drew.alloc (.cells (#[]++Builtin.zeroCells KP.cells n++Builtin.zeroCells KP.cells (c-n)) 47):=by
 obtain⟨i,hi,hs,hb,hz⟩:=a7A
 have hn1:n*i.bytes<=n*64:=Aa _ hb
 have hrz:∀ ty,(Builtin.append_ #[39,3] ty #[.slice none 0 0,.int .i64 (n:Nat)]).run Tryz.prog w=.ok (.slice (some ⟨w.heap.size,0,none⟩) (0+n) (grownCap w (0+n) 0 47)) (w.drew.alloc (.cells (#[]++Builtin.zeroCells KP.cells n++Builtin.zeroCells KP.cells (grownCap w (0+n) 0 47-(0+n))) 47)):=fun ty =>
  run_append_grow_zeros w 39 3 ty 47 i KP .i64 .i64 (by kernel_rfl) (by kernel_rfl) hi hz none 0 0 [] (run_firstCells_none w.drew _ 0 0 0) n h0 (by omega) (by omega) (by omega) (by omega) (growslice_fits (by omega) (by rw[tq];omega))
 have hG:=grownCap_ge w (0+n) 0 47
 have hG2:=grownCap_le_maxLen w (0+n) 0 47 (by unfold maxLen;omega)
 obtain⟨G,hg⟩:∃ G,G=grownCap w (0+n) 0 47:=⟨_,rfl⟩
 rw[<-hg] at hrz hG hG2
 simp only[tq] at hrz hG
 have hG63:G<=9223372036854775807:=by unfold maxLen at hG2;omega
 have h1:¬ ((n:Int)<0):=by omega
 have h4:(n:Int) > 0:=by omega
 clear hg hn1 hi hz hs hb
 go_enter Tryz.func151,Tryz.ntmps151
 go_wp2_with (at_builtin;refine Lib.wpList_append_run _ rfl _ _ _ _ rfl _ _ rfl rfl _ _ (hrz _) ?_)
 go_ret
 exact⟨G,hG,hG2,rfl,rfl⟩
theorem a7u (w:World):Calls Tryz.prog 151 #[.slice none 0 0,.int .i64 0] w fun e w'=>e=.returned (.slice none 0 0)/\w'=w:=by
 go_enter Tryz.func151,Tryz.ntmps151
 go_wp2
 go_ret
 exact⟨rfl,rfl⟩
abbrev LKr:LK:=.row 47 tR
def b6E:kR:=.mk LKr [.nls tR,tI] (fun x=>(show Option (List aH) from x.1)=none/\0<=(show Int from x.2.1)/\(show Int from x.2.1)<=1000000000) (fun _=>([]:List aH))
theorem b6y (z:Array Value) (n:Nat):(Builtin.zeroCells z n).size=n*z.size:=by simp[Builtin.zeroCells]
theorem a6R:∀ u ∈ KP.cells.toList,cZ u=true:=by
 intro u hu
 have hu:u ∈ [Value.bool false,.slice none 0 0,.bool false,.slice none 0 0]:=hu
 simp only[qj,Ag,or_false] at hu
 rcases hu with rfl|rfl|rfl|rfl<;>rfl
theorem b0b:NOk Tryz.prog 151 b6E:=by
 intro F w vs y hF hvs hp
 obtain⟨v,vs',rfl,h1,u,vs'',rfl,h2,h3⟩:=hvs
 have h3:vs''=[]:=h3
 subst h3
 obtain⟨p1,p2,p3⟩:=hp
 have hv:v=.slice none 0 0:=by
  obtain⟨cs,rfl,hr⟩:=h1
  rcases hr with⟨_,rfl⟩|⟨ys,b,o,c,ds,e,_⟩
  ·rfl
  ·rw[show y.1=(none:Option (List aH)) from p1] at e;cases e
 subst hv
 obtain⟨n,hn⟩:=uz p2
 have hu:u=.int .i64 (n:Int):=by rw[a2e h2];rw[show y.2.1=(n:Int) from hn]
 subst hu
 have hn9:n<=1000000000:=by rw[hn] at p3;omega
 let E:Env:=⟨fun _=>none,fun _=>undef,fun q=>F q\/w.heap.size<=q,fun _ _=>undef,fun _=>False,fun _=>undef⟩
 have hhas:∀ r j q,¬ E.has r j q:=fun r j q h=>by cases j<;>cases h
 have hM:Mem E (aP []) w w:=⟨⟨rfl,rfl,rfl,ay _,fun _ _ _=>rfl⟩,fun r=>rfl,fun r j r' j' b e=>(hhas r j b e).elim,fun r j b e=>(hhas r j b e).elim,fun q hq=>hq.elim (fun h=>h.elim) .inr,fun r i _=>rfl,fun r k e=>(by cases e),fun b o n h=>h⟩
 have fin:∀ (w':World) (b:Option Nat) (s:Value),Below w.heap.size w w'->(b=none\/b=some w.heap.size)->b=bJ s->w'.ownsRow 0 47 4 s 0 []->CAv cZ w' s->∃ v E9 ρ q v0,Ending.returned s=.returned v/\Mem E9 ρ w w'/\(∀ q,¬ E9.oQ q)/\ρ q=LKr.res ([]:List aH) v0/\v=E9.sl q:=fun w' b s hb hbs hbl ho hc=>by
  have hsl:(E.put 0 b s).sl 0=s:=by show bI E.sl 0 s 0=s;exact aG _ _ _
  obtain⟨m1,m2⟩:=hM.turn (w':=w') 0 (jJ.below hb _) b s (.row 47 tR [] 0)
   ⟨by rw[hsl];show bI E.blk 0 _ 0=_;rw[aG];exact hbl,rfl,[],by rw[hsl];exact ho,rfl,by rw[hsl];exact⟨hc,a2w _⟩⟩ (hbs.elim .inl (fun h=>.inr (.inr h))) rfl (fun k e=>by cases e) (fun h=>h.elim) (fun h=>h.elim) (fun v h=>h.elim) (fun v h=>h.elim) (fun v h=>h.elim)
  exact⟨s,_,_,0,0,rfl,m1,fun q h=>h,aG _ _ _,hsl.symm⟩
 by_cases h0:n=0
 ·subst h0
  refine(a7u w).mono ?_
  rintro e w' ⟨rfl,rfl⟩
  obtain⟨v,E9,ρ,q,v0,h⟩:=fin w' none (.slice none 0 0) (jk _ _) (.inl rfl) rfl (Bj _ _ _ _) (fun g hg=>by cases hg)
  exact⟨v,E9,ρ,q,v0,h⟩
 ·refine(b0c n w (by omega) hn9).mono ?_
  rintro e w' ⟨c,c1,c2,rfl,rfl⟩
  have hcell:(w.drew.alloc (.cells (#[]++Builtin.zeroCells KP.cells n++Builtin.zeroCells KP.cells (c-n)) 47)).heap[w.heap.size]?=some (.cells (#[]++Builtin.zeroCells KP.cells n++Builtin.zeroCells KP.cells (c-n)) 47 (0,0)):=Df w.drew (.cells (#[]++Builtin.zeroCells KP.cells n++Builtin.zeroCells KP.cells (c-n)) 47)
  obtain⟨v,E9,ρ,q,v0,h⟩:=fin _ (some w.heap.size) (.slice (some ⟨w.heap.size,0,none⟩) 0 c) ((jk _ _).drew.alloc (ay _) _) (.inr rfl) rfl ⟨rfl,.inr ⟨w.heap.size,c,_,rfl,vg _,hcell,vg _,c2,by
    simp only[Array.size_append,b6y,Array.size_empty]
    show 0+n*4+(c-n)*4=c*4
    omega,by simp⟩⟩ (fun g hg i x hx=>by
    cases hg
    have hx:=(yw _ w.heap.size i _ _ _ hcell).symm.trans hx
    have hx2:=Array.mem_of_getElem? hx
    simp only[Array.mem_append] at hx2
    rcases hx2 with(hx2|hx2)|hx2
    ·exact absurd hx2 (by simp)
    ·exact yZ a6R _ x (Eh.2 hx2)
    ·exact yZ a6R _ x (Eh.2 hx2))
  exact⟨v,E9,ρ,q,v0,h⟩
end
def smQ (q:aH):Prop:=q.n<=1/\q.m<=1/\(q.ok=true->rsz q.x<=1)
def c4z (f:MR):Prop:=f.length<=4/\∀ r ∈ f,r.length<=4/\∀ q ∈ r,smQ q
theorem a5s {α:Type} {K:Nat}:∀ {x:List (List α)},(∀ r ∈ x,r.length<=K)->x.flatten.length<=K*x.length
 | [],_=>by simp
 | r::x,h=>by
  have h1:=h r (ni ..)
  have h2:=a5s fun s hs=>h s (ku _ hs)
  rw[List.flatten_cons,jm,List.length_cons,Nat.mul_succ]
  omega
theorem WR {α:Type} {x:List (List α)} {i:Nat} (hi:i<x.length):(x.take (i+1)).flatten=(x.take i).flatten++x.getD i []:=by
 rw[Ai,List.flatten_append,jc,iy hi];simp
noncomputable def c2T:Ctr:=⟨[.list (.list tR)],[.list tR],fun x=>(show MR from x.1).length<=1000/\∀ r ∈ (show MR from x.1),r.length<=1000,fun x=>((show MR from x.1).flatten,())⟩
theorem a9x:aI Tryz.prog 63 c2T:=by
 refine aJ (nil0.an b0b) ⟨[],[],[]⟩ Tryz.func63 rfl (by decide) (fun x=>[.inv {k:Nat // k<=(show MR from x.1).length} (fun k=>[(11,.val tI (k.1:Int)),(3,.val tI (((show MR from x.1).take k.1).flatten.length:Int))]) (fun k=>[]) (fun k=>(show MR from x.1).length-k.1) ⟨0,by omega⟩ (fun _=>[]),
  .inv {k:Nat // k<=(show MR from x.1).length} (fun k=>[(27,.val tI (k.1:Int)),(6,.own 24 0),(24,.any)]) (fun k=>[(24,.row 47 tR (((show MR from x.1).take k.1).flatten) 0)]) (fun k=>(show MR from x.1).length-k.1) ⟨0,by omega⟩ (fun _=>[])]) (fun x hp=>?_)
 obtain⟨x,u⟩:=x
 change List (List aH) at x
 refine aT ((asT Int 0=0/\0=aB (List.flatten (List.take 0 x)).length/\True)/\∀ (i:{ k:Nat // k<=List.length x }),let A₀:=(List.flatten (List.take (aA i) x)).length;let A₁:=(aB A₀+aB (List.getD x (aB (aA i)).toNat (aF aH)).length);asT Bool true=true/\ifB (decide (aB (aA i)<aB x.length)) ((0<=aB (aA i)/\aB (aA i)<aB x.length/\True)/\ifB (decide (IntKind.wrap IntKind.i64 A₁<0)) False (∃ (i':{ k:Nat // k<=List.length x }),List.length x-aA i'<List.length x-aA i/\IntKind.wrap IntKind.i64 (aB (aA i)+1)=aB (aA i')/\IntKind.wrap IntKind.i64 A₁=aB (List.flatten (List.take (aA i') x)).length/\True)) (((asT (Option (List aH)) none=none/\0<=aB A₀/\aB A₀<=1000000000)/\True)/\(asT Int 0=0/\asT (List aH) (aF aH)=aF aH/\True)/\∀ (i:{ k:Nat // k<=List.length x }),let A₂:=(List.take (aA i) x);asT Bool true=true/\ifB (decide (aB (aA i)<aB x.length)) ((0<=aB (aA i)/\aB (aA i)<aB x.length/\True)/\(List.length (List.flatten A₂)+List.length (List.getD x (aB (aA i)).toNat (aF aH))<=1000000000/\True)/\∃ (i':{ k:Nat // k<=List.length x }),List.length x-aA i'<List.length x-aA i/\IntKind.wrap IntKind.i64 (aB (aA i)+1)=aB (aA i')/\List.flatten A₂++List.getD x (aB (aA i)).toNat (aF aH)=List.flatten (List.take (aA i') x)/\True) (True/\List.flatten A₂=List.flatten x/\True))) (by kernel_rfl) ?_
 have hZ:(⟨false,0,[],[]⟩:aH)=bC:=rfl
 try simp only[aC,aj,ah]
 try dsimp only[aB,asT,aA,aF,Ty.den,Lf.den] at *
 try simp only[hZ,Int.toNat_natCast,aC,aj,ah,jg,jf,gy,bg]
 try simp only[bT,bP,List.all_cons,List.all_nil,jh,dw,ig,je,jy,ne_eq,au,bn,dh,eu,jd,oh,jo,oq,jg,jf,iw,bf,List.length_cons,List.length_nil]
 obtain⟨hl,hr⟩:x.length<=1000/\∀ r ∈ x,r.length<=1000:=hp
 have hf:∀ k,(x.take k).flatten.length<=1000000:=fun k=>by
  have h1:=a5s (K:=1000) (x:=x.take k) fun r h=>hr r (Bf h)
  have h2:(x.take k).length<=1000:=by rw[ny];omega
  omega
 have hg:∀ k,(x.getD k []).length<=1000:=fun k=>by
  by_cases h:k<x.length
  ·exact bV hr h
  ·rw[jc,xk (by omega)];simp
 refine⟨rfl,fun i=>⟨fun h1=>?_,fun h1=>⟨⟨by omega,by have:=hf i.1;omega⟩,fun j=>⟨fun h2=>⟨⟨by omega,h2⟩,by have:=hf j.1;have:=hg j.1;omega,⟨j.1+1,by omega⟩,by simp only;omega,by rw[aN (by omega) (by omega)];rfl,(WR (by omega)).symm⟩,fun h2=>by rw[jv (by omega)]⟩⟩⟩⟩
 have e1:=hf i.1
 have e2:=hg i.1
 rw[aN (n:=((x.take i.1).flatten.length:Int)+((x.getD i.1 []).length:Int)) (by omega) (by omega)]
 refine⟨⟨by omega,h1⟩,fun h=>by omega,fun h=>⟨⟨i.1+1,by omega⟩,by simp only;omega,by rw[aN (by omega) (by omega)];rfl,?_⟩⟩
 show _=(((x.take (i.1+1)).flatten.length:Nat):Int)
 rw[WR (by omega),jm];omega
theorem c4z.short {f:MR} (h:c4z f):wL f:=⟨by have:=h.1;omega,fun r hr=>⟨by have:=(h.2 r hr).1;omega,fun q hq=>⟨by have:=((h.2 r hr).2 q hq).1;omega,by have:=((h.2 r hr).2 q hq).2.1;omega⟩⟩⟩
theorem kD {α:Type} {xs:List α} {i:Nat} {d:α} (hi:i<xs.length):xs.getD i d ∈ xs:=by
 rw[jc,iy hi];exact xg hi
abbrev ML:Type:=List (List (List aH))
theorem a9l (a:MR):qX a=0\/qX a=1:=by unfold qX;split<;>simp
def VE (l:ML):Int:=if l.any (fun a=>qX a != 0) then 1 else 0
noncomputable def c2M:Ctr:=⟨[.list tMR],[tI],fun x=>(show ML from x.1).length<=1000000/\∀ a ∈ (show ML from x.1),wL a,fun x=>(VE x.1,())⟩
theorem a2s:aI Tryz.prog 230 c2M:=by
 refine kY (nil0.ad yD) [] Tryz.func230 rfl (by decide) (fun x=>[.inv {k:Nat // k<=(show ML from x.1).length/\((show ML from x.1).take k).any (fun a=>qX a != 0)=false} (fun k=>[(8,.val tI (k.1:Int))]) (fun k=>[]) (fun k=>(show ML from x.1).length-k.1) ⟨0,by omega,rfl⟩ (fun _=>[])]) (fun x hp=>?_)
 obtain⟨x,u⟩:=x
 change List (List (List aH)) at x
 refine aT ((asT Int 0=0/\True)/\∀ (i:{ k:Nat // k<=List.length x/\(List.any (List.take k x) fun(a:List (List aH))=>qX a != 0)=false }),asT Bool true=true/\ifB (decide (aB (aA i)<aB x.length)) ((0<=aB (aA i)/\aB (aA i)<aB x.length/\True)/\(wL (List.getD x (aB (aA i)).toNat (aF (List aH)))/\True)/\ifB (qX (List.getD x (aB (aA i)).toNat (aF (List aH))) != 0) (True/\qX (List.getD x (aB (aA i)).toNat (aF (List aH)))=VE x/\True) (∃ (i':{ k:Nat // k<=List.length x/\(List.any (List.take k x) fun(a:List (List aH))=>qX a != 0)=false }),List.length x-aA i'<List.length x-aA i/\IntKind.wrap IntKind.i64 (aB (aA i)+1)=aB (aA i')/\True)) (True/\0=VE x/\True)) (by kernel_rfl) ?_
 obtain⟨hl,hb⟩:=hp
 dsimp only[aB,asT,aA,aF] at *
 simp only[Int.toNat_natCast,aC,aj,ah,jg,jf]
 refine fun i=>⟨fun h1=>⟨⟨by omega,h1⟩,bV hb (by omega),fun h2=>?_,fun h2=>⟨⟨i.1+1,by omega,?_⟩,by simp only;omega,?_⟩⟩,fun h1=>?_⟩
 ·have hi:i.1<x.length:=by omega
  have h3:x.any (fun a=>qX a != 0)=true:=Em.mpr ⟨x.getD i.1 [],by rw[jc,iy hi];exact xg hi,h2⟩
  unfold VE;rw[h3]
  rcases a9l (x.getD i.1 []) with h|h
  ·rw[h] at h2;exact absurd h2 (by decide)
  ·rw[h];rfl
 ·rw[iM (d:=[]) (by omega),i.2.2,h2];rfl
 ·rw[aN (by omega) (by omega)];rfl
 ·have h3:=i.2.2
  rw[jv (by omega)] at h3
  unfold VE;rw[h3];rfl
abbrev MQ:Type:=List (List Rat)
abbrev ent (a:MQ) (i j:Nat):Rat:=(a.getD i []).getD j 0
def tab (R C:Nat) (f:Nat->Nat->Rat):MQ:=(List.range R).map fun i=>(List.range C).map fun j=>f i j
def bF (R C:Nat) (f:Nat->Nat->Rat):MR:=(List.range R).map fun i=>(List.range C).map fun j=>dP (f i j)
def isM (a:MQ) (R C:Nat):Prop:=a.length=R/\(∀ r ∈ a,r.length=C)/\1<=R/\R<=64/\1<=C/\C<=64
theorem eU (R C:Nat) (f:Nat->Nat->Rat):(bF R C f).length=R:=by simp[bF]
theorem b1k {α:Type} (X:List (List α)) (Z:List α) {k:Nat} (hk:k<X.length):List.map (fun i=>(X++[Z]).getD i []) ((List.range X.length).set k X.length)=X.set k Z:=by
 apply Dx
 ·simp
 ·intro i h1 h2
  have hi:i<X.length:=by simpa using h2
  rw[List.getElem_map,List.getElem_set,List.getElem_set]
  split
  ·simp
  ·rw[List.getElem_range,jc,Am hi,iy hi];rfl
theorem b4H (n k:Nat):((List.range n).set k n).Nodup:=by
 refine List.nodup_iff_pairwise_ne.mpr (List.pairwise_iff_getElem.mpr fun i j hi hj h=>?_)
 have h1:i<n:=by simpa using hi
 have h2:j<n:=by simpa using hj
 rw[List.getElem_set,List.getElem_set]
 split<;>split<;>simp<;>omega
theorem b1l {α:Type} {H:List (List α)} {k R:Nat} (hH:H.length=k) (hk:k<R) (Z:List α):(H++List.replicate (R-k) []).set k Z=H++[Z]++List.replicate (R-k-1) []:=by
 obtain⟨d,rfl⟩:∃ d,R=k+d+1:=⟨R-k-1,by omega⟩
 subst hH
 rw[show H.length+d+1-H.length=d+1 by omega,show d+1-1=d by omega,List.set_append_right _ _ (ay _),Nat.sub_self,List.replicate_succ,List.set_cons_zero]
 simp
theorem a5N {α:Type} {H T:List (List α)} {k:Nat} (hH:H.length=k) (Z:List α):rowAt (H++[Z]++T) k=Z:=by
 subst hH;unfold rowAt;simp
theorem b1n {α:Type} {H T:List (List α)} {k:Nat} (hH:H.length=k) (Z Y:List α):(H++[Z]++T).set k Y=H++[Y]++T:=by
 subst hH;simp
theorem b1m {α:Type} (g:Nat->α) (z:α) {q C:Nat} (h:q<C):(List.map g (List.range q)++List.replicate (C-q) z).set q (g q)=List.map g (List.range (q+1))++List.replicate (C-(q+1)) z:=by
 obtain⟨d,rfl⟩:∃ d,C=q+d+1:=⟨C-q-1,by omega⟩
 rw[show q+d+1-q=d+1 by omega,show q+d+1-(q+1)=d by omega,List.set_append_right _ _ (by simp),Bq]
 simp[List.replicate_succ]
theorem a8B (k C:Nat) (f:Nat->Nat->Rat):bF (k+1) C f=bF k C f++[List.map (fun j=>dP (f k j)) (List.range C)]:=by unfold bF;rw[Bq];simp
theorem oC {α:Type} {p:α->Prop}:∀ {xs:List α},jF p xs↔∀ x ∈ xs,p x
 | []=>by simp[jF]
 | x::xs=>by simp[jF,oC (xs:=xs)]
theorem EC (R C:Nat) (f:Nat->Nat->Rat):jF (fun x=>dI [jF (fun x=>dI [aH.ok x=true]) x]) (bF R C f):=by
 refine oC.mpr fun r hr=>⟨oC.mpr fun q hq=>⟨?_,trivial⟩,trivial⟩
 obtain⟨i,_,rfl⟩:=ug.mp hr
 obtain⟨j,_,rfl⟩:=ug.mp hq
 rfl
theorem MX (R C:Nat) (f:Nat->Nat->Rat):List.map (fun xs=>List.map (fun x=>aH.x x) xs) (bF R C f)=tab R C f:=by
 unfold bF tab;simp[dP,Function.comp_def]
end Go.Proofs.YtbkocjmmbkifjaaGreat
