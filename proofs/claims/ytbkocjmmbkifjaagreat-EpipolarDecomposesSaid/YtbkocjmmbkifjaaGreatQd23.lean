/-
  Lemmas for the theorem vdecomposes28_holds, part 23 of 34.
-/
import Derived.Lib.AppendZerosOnto
import Derived.Lib.Walk
import Derived.Test.YtbkocjmmbkifjaaGreatQd22
namespace Go.Proofs.YtbkocjmmbkifjaaGreat
open Go Go.RowKit
theorem Ej:type_of% @List.mem_flatten:=@List.mem_flatten
set_option maxRecDepth 100000
set_option maxHeartbeats 4000000
set_option linter.unusedSimpArgs false
set_option linter.unusedVariables false
theorem NT {l:List Nat} (k:Nat):val (l.drop k)<=val l:=by
 have e:=val_append (l.take k) (l.drop k)
 rw[Af] at e
 have h1:1<=BB ^ (l.take k).length:=Nat.pow_pos fV
 have h2:val (l.drop k)<=BB ^ (l.take k).length*val (l.drop k):=Nat.le_mul_of_pos_left _ h1
 omega
theorem XI (x:Int) (h0:-9223372036854775808<=x) (h1:x<=9223372036854775807):isz x<=999999999 :=
 ak (a9Q (k:=3) (by rw[bM];omega)) (by omega)
theorem tN {z:Int} (h0:-9223372036854775808<=z) (h1:z<=9223372036854775807):IntKind.i64.wrap z=z:=by simp[IntKind.wrap,IntKind.bits,IntKind.signed];omega
theorem c4f {x:Int} (h:-9223372036854775808<=x/\x<=9223372036854775807):aK x=x/\bH x=true:=by
 unfold aK bH
 rw[iw (by omega)]
 exact⟨rfl,by simp;omega⟩
theorem b1M {x:Int} (h:¬ (-9223372036854775808<=x/\x<=9223372036854775807)):aK x=0/\bH x=false:=by
 unfold aK bH
 rw[eu (by omega)]
 exact⟨rfl,by simp;omega⟩
theorem a3R (v:Value) (x:Int) (w:World) (hv:Raw w v x) (hl:isz x<=999999999) (h:x < -9223372036854775808) :
  Calls Tryz.prog 223 #[v] w fun e W'=>e=.returned (.tuple #[.int .i64 (aK x),.bool (bH x)])/\Below w.heap.size w W':=by
 obtain⟨b,p,n,c,rfl⟩:=hv.form
 have hl1:isz x<=1000000000:=by omega
 have hm1:isz (-9223372036854775808)<=999999999:=XI _ (by omega) (by omega)
 have hm2:isz 9223372036854775807<=999999999:=XI _ (by omega) (by omega)
 have HF:=bg (b1M (x:=x) (by omega))
 have d1:bK x (-9223372036854775808)=-1:=by unfold bK;rw[iw (by omega)]
 have HC1:=bg d1
 have HC2:=bg (show bK x 9223372036854775807=bK x 9223372036854775807 from rfl)
 clear d1 h
 have kU:Below w.heap.size w w:=dh _ _
 go_enter Tryz.func223,Tryz.ntmps223
 go_wp2_with fail
 obtain⟨hA1,b0⟩:=bx1 w rfl [.bool b,.slice p n c] 45
 have c0:=(hv.below hA1)
 (with_reducible refine(gZ _ (x) _ c0 hl1).mono ?_)
 rintro e w1 ⟨v1,rfl,hi1,hb1⟩
 obtain⟨g1,p1,n1,c1,rfl⟩:=hi1.form
 obtain rfl:n1=(dig x.natAbs).length:=hi1.len
 have hf1:=bg (dS.flag hi1)
 have iO:=(b0.to hb1)
 obtain⟨h0,l0,j0,m0⟩:=iO.cf2
 go_wp2_with fail
 (with_reducible refine(yH _ _ (by omega) (by omega)).mono ?_)
 rintro e w2 ⟨v2,rfl,hi2,hb2⟩
 obtain⟨g2,p2,n2,c2,rfl⟩:=hi2.form
 go_wp2_with fail
 (with_reducible refine(yH _ _ (by omega) (by omega)).mono ?_)
 rintro e w3 ⟨v3,rfl,hi3,hb3⟩
 obtain⟨g3,p3,n3,c3,rfl⟩:=hi3.form
 have BD:=(((iO.store2 (.bool g1) (.slice p1 (dig x.natAbs).length c1)).to hb2).to hb3)
 obtain⟨i0,k0⟩:=BD.cs2
 have n0:=(BD).1
 obtain⟨hA2,p0⟩:=bx1 w3 rfl [.bool false,.slice none 0 0] 45
 have o0:=((BD.to hA2)).1
 go_wp2_with fail
 have f0:=(((hi1.bW iO rfl rfl (.bool g1) (.slice p1 (dig x.natAbs).length c1)).below hb2).below hb3)
 obtain⟨hA3,q0,r0⟩:=bx2 w3 rfl [.bool g2,.slice p2 n2 c2] 45 [.bool g3,.slice p3 n3 c3] 45
 have d0:=(f0.below hA3).raw
 have g0:=(hi2.below hb3)
 have e0:=(g0.below hA3).raw
 (with_reducible refine(pR _ _ (x) ((-9223372036854775808)) _ d0 e0 hl hm1).mono ?_)
 rw[HC1.out]
 rintro e w4 ⟨rfl,hb4⟩
 have a0:=(Below.tr (Below.tr (Below.tr (Below.tr (Below.bW (Below.tr (Below.tr kU hA1) hb1) (b:=w.heap.size) (by omega) (.bool g1) (.slice p1 (dig x.natAbs).length c1)) hb2) hb3) hA3) hb4)
 go_wp2_with fail
 go_ret2
 exact⟨by rw[HF.out.1,HF.out.2];rfl,a0⟩
theorem a2s (v:Value) (x:Int) (w:World) (hv:Raw w v x) (hl:isz x<=999999999) (h:9223372036854775807<x) :
  Calls Tryz.prog 223 #[v] w fun e W'=>e=.returned (.tuple #[.int .i64 (aK x),.bool (bH x)])/\Below w.heap.size w W':=by
 obtain⟨b,p,n,c,rfl⟩:=hv.form
 have hl1:isz x<=1000000000:=by omega
 have hm1:isz (-9223372036854775808)<=999999999:=XI _ (by omega) (by omega)
 have hm2:isz 9223372036854775807<=999999999:=XI _ (by omega) (by omega)
 have HF:=bg (b1M (x:=x) (by omega))
 have HC1:Hid (bK x (-9223372036854775808)=1):=by unfold Hid bK;rw[eu (by omega),iw (by omega)]
 have HC2:Hid (bK x 9223372036854775807=1):=by unfold Hid bK;rw[eu (by omega),iw (by omega)]
 clear h
 have kU:Below w.heap.size w w:=dh _ _
 go_enter Tryz.func223,Tryz.ntmps223
 go_wp2_with fail
 obtain⟨hA1,e0⟩:=bx1 w rfl [.bool b,.slice p n c] 45
 have g0:=(hv.below hA1)
 (with_reducible refine(gZ _ (x) _ g0 hl1).mono ?_)
 rintro e w1 ⟨v1,rfl,hi1,hb1⟩
 obtain⟨g1,p1,n1,c1,rfl⟩:=hi1.form
 obtain rfl:n1=(dig x.natAbs).length:=hi1.len
 have hf1:=bg (dS.flag hi1)
 have iO:=(e0.to hb1)
 obtain⟨o0,u0,r0,v0⟩:=iO.cf2
 go_wp2_with fail
 (with_reducible refine(yH _ _ (by omega) (by omega)).mono ?_)
 rintro e w2 ⟨v2,rfl,hi2,hb2⟩
 obtain⟨g2,p2,n2,c2,rfl⟩:=hi2.form
 go_wp2_with fail
 (with_reducible refine(yH _ _ (by omega) (by omega)).mono ?_)
 rintro e w3 ⟨v3,rfl,hi3,hb3⟩
 obtain⟨g3,p3,n3,c3,rfl⟩:=hi3.form
 have BD:=(((iO.store2 (.bool g1) (.slice p1 (dig x.natAbs).length c1)).to hb2).to hb3)
 obtain⟨p0,s0⟩:=BD.cs2
 have x0:=(BD).1
 obtain⟨hA2,z0⟩:=bx1 w3 rfl [.bool false,.slice none 0 0] 45
 have y0:=((BD.to hA2)).1
 go_wp2_with fail
 have a0:=(((hi1.bW iO rfl rfl (.bool g1) (.slice p1 (dig x.natAbs).length c1)).below hb2).below hb3)
 obtain⟨hA3,a1,f0⟩:=bx2 w3 rfl [.bool g2,.slice p2 n2 c2] 45 [.bool g3,.slice p3 n3 c3] 45
 have h0:=(a0.below hA3).raw
 have m0:=(hi2.below hb3)
 have i0:=(m0.below hA3).raw
 (with_reducible refine(pR _ _ (x) ((-9223372036854775808)) _ h0 i0 hl hm1).mono ?_)
 rw[HC1.out]
 rintro e w4 ⟨rfl,hb4⟩
 have b4M:=((BD.to hA3).to hb4)
 obtain⟨q0,t0⟩:=b4M.cs2
 have w0:=(f0.to hb4)
 obtain⟨c0,d0⟩:=w0.cs2
 go_wp2_with fail
 have l0:=((a0.below hA3).below hb4)
 have j0:=l0.raw
 have n0:=((hi3.below hA3).below hb4)
 have k0:=n0.raw
 (with_reducible refine(pR _ _ (x) (9223372036854775807) _ j0 k0 hl hm2).mono ?_)
 rw[HC2.out]
 rintro e w5 ⟨rfl,hb5⟩
 have b0:=(Below.tr (Below.tr (Below.tr (Below.tr (Below.tr (Below.bW (Below.tr (Below.tr kU hA1) hb1) (b:=w.heap.size) (by omega) (.bool g1) (.slice p1 (dig x.natAbs).length c1)) hb2) hb3) hA3) hb4) hb5)
 go_wp2_with fail
 go_ret2
 exact⟨by rw[HF.out.1,HF.out.2];rfl,b0⟩
theorem a7H (v:Value) (x:Int) (w:World) (hv:Raw w v x) (hl:isz x<=999999999) (h:-9223372036854775808<=x/\x<=9223372036854775807) :
  Calls Tryz.prog 223 #[v] w fun e W'=>e=.returned (.tuple #[.int .i64 (aK x),.bool (bH x)])/\Below w.heap.size w W':=by
 obtain⟨b,p,n,c,rfl⟩:=hv.form
 have hl1:isz x<=1000000000:=by omega
 have hm1:isz (-9223372036854775808)<=999999999:=XI _ (by omega) (by omega)
 have hm2:isz 9223372036854775807<=999999999:=XI _ (by omega) (by omega)
 have HF:=bg (c4f h)
 have HR:=bg h
 obtain⟨cc,hcc⟩:∃ cc,bK x (-9223372036854775808)=cc:=⟨_,rfl⟩
 obtain⟨cd,hcd⟩:∃ cd,bK x 9223372036854775807=cd:=⟨_,rfl⟩
 have HC1:=bg hcc
 have HC2:=bg hcd
 have d1:decide (cc<0)=false:=by
  have:0<=cc:=by rw[<-hcc];unfold bK;rw[eu (by omega)];split<;>omega
  simp;omega
 have d2:decide (0<cd)=false:=by
  have:cd<=0:=by rw[<-hcd];unfold bK;split<;>(try split)<;>omega
  simp;omega
 clear hcc hcd h
 have kU:Below w.heap.size w w:=dh _ _
 go_enter Tryz.func223,Tryz.ntmps223
 go_wp2_with fail
 obtain⟨hA1,i0⟩:=bx1 w rfl [.bool b,.slice p n c] 45
 have k0:=(hv.below hA1)
 (with_reducible refine(gZ _ (x) _ k0 hl1).mono ?_)
 rintro e w1 ⟨v1,rfl,hi1,hb1⟩
 obtain⟨g1,p1,n1,c1,rfl⟩:=hi1.form
 obtain rfl:n1=(dig x.natAbs).length:=hi1.len
 have hf1:=bg (dS.flag hi1)
 have iO:=(i0.to hb1)
 obtain⟨s0,y0,v0,z0⟩:=iO.cf2
 go_wp2_with fail
 (with_reducible refine(yH _ _ (by omega) (by omega)).mono ?_)
 rintro e w2 ⟨v2,rfl,hi2,hb2⟩
 obtain⟨g2,p2,n2,c2,rfl⟩:=hi2.form
 go_wp2_with fail
 (with_reducible refine(yH _ _ (by omega) (by omega)).mono ?_)
 rintro e w3 ⟨v3,rfl,hi3,hb3⟩
 obtain⟨g3,p3,n3,c3,rfl⟩:=hi3.form
 have BD:=(((iO.store2 (.bool g1) (.slice p1 (dig x.natAbs).length c1)).to hb2).to hb3)
 obtain⟨t0,w0⟩:=BD.cs2
 have b1:=(BD).1
 obtain⟨hA2,i1⟩:=bx1 w3 rfl [.bool false,.slice none 0 0] 45
 have f1:=((BD.to hA2)).1
 go_wp2_with fail
 have a0:=(((hi1.bW iO rfl rfl (.bool g1) (.slice p1 (dig x.natAbs).length c1)).below hb2).below hb3)
 obtain⟨hA3,j1,j0⟩:=bx2 w3 rfl [.bool g2,.slice p2 n2 c2] 45 [.bool g3,.slice p3 n3 c3] 45
 have l0:=(a0.below hA3).raw
 have q0:=(hi2.below hb3)
 have m0:=(q0.below hA3).raw
 (with_reducible refine(pR _ _ (x) ((-9223372036854775808)) _ l0 m0 hl hm1).mono ?_)
 rw[HC1.out]
 rintro e w4 ⟨rfl,hb4⟩
 have b4M:=((BD.to hA3).to hb4)
 obtain⟨u0,x0⟩:=b4M.cs2
 have a1:=(j0.to hb4)
 obtain⟨f0,g0⟩:=a1.cs2
 go_wp2_with fail
 have b0:=((a0.below hA3).below hb4)
 have n0:=b0.raw
 have r0:=((hi3.below hA3).below hb4)
 have o0:=r0.raw
 (with_reducible refine(pR _ _ (x) (9223372036854775807) _ n0 o0 hl hm2).mono ?_)
 rw[HC2.out]
 rintro e w5 ⟨rfl,hb5⟩
 have c6P:=(b4M.to hb5)
 have p0:=(b0.below hb5)
 have d0:=(Below.tr (Below.tr (Below.tr (Below.tr (Below.tr (Below.bW (Below.tr (Below.tr kU hA1) hb1) (b:=w.heap.size) (by omega) (.bool g1) (.slice p1 (dig x.natAbs).length c1)) hb2) hb3) hA3) hb4) hb5)
 have qq:=c6P
 have qc0:=qq.c0
 have qc1:=qq.c1
 have hRd:=(p0).rd
 have hBB:=d0
 have hlen:(dig x.natAbs).length<=1000000000:=hl1
 have HS:=bg (a0B x)
 go_wp2_with fail
 go_loop [6,7,26,27,28,29,30,31,32,33,34,35,36,37,38,39,40,41,42,43,44,45,46,47,48,49] (fun nn i _ _ _ _ _ _ _ _ _ _ _ _ _ _ _ _ _ _ _ _ _ _ _ _=>∃ (k:Nat) (i' z:Int),i=.int .i64 i'/\k<=(dig x.natAbs).length/\Hid (i'=(k:Int)-1)/\nn=.int .i64 z/\z=sg (decide (x<0)) (val ((dig x.natAbs).drop k))) (fun _ i _ _ _ _ _ _ _ _ _ _ _ _ _ _ _ _ _ _ _ _ _ _ _ _=>(intOf i+1).toNat)
 case atStart=>exact⟨(dig x.natAbs).length,_,0,rfl,aj _,rfl,rfl,by simp[val,sg]⟩
 case round =>
  obtain⟨k,i',z,rfl,hk,hk',rfl,hz⟩:=hrel
  cases k with
  | zero =>
   obtain rfl:i'=-1:=by have:=hk'.out;simpa using this
   have HZ:Hid (z=aK x):=by
    unfold Hid;rw[HF.out.1,hz]
    simp only[List.drop_zero,aT]
    exact HS.out
   clear hz
   go_wp2_with fail
   go_ret2
   exact⟨by rw[HF.out.2,<-HZ.out];rfl,hBB⟩
  | succ k =>
   obtain rfl:i'=(k:Int):=by have:=hk'.out;simp at this;omega
   have hkl:k<(dig x.natAbs).length:=by omega
   obtain⟨ba,oa,rfl,hba,hca⟩:=hRd.at (by intro e;rw[e] at hkl;simp at hkl)
   have hcell:=hca k hkl
   have ga:gr (dig x.natAbs) k<=999999999:=fQ (bC _) k
   have h0:(0:Int)<=k:=by omega
   have h1:(k:Int)<(dig x.natAbs).length:=by omega
   obtain⟨v',hvd⟩:∃ v',val ((dig x.natAbs).drop (k+1))=v':=⟨_,rfl⟩
   rw[hvd] at hz
   clear hca
   by_cases hneg:x<0
   ·have hdx:decide (x<0)=true:=jf hneg
    obtain rfl:g1=true:=by have:=hf1.out;rw[this];exact hdx
    obtain rfl:z=-(v':Int):=by rw[hz,hdx];simp[sg]
    clear hz
    have HV:Hid (-(val ((dig x.natAbs).drop k):Int)=(-(v':Int))*1000000000-(gr (dig x.natAbs) k:Int)):=by
     have h9:=kH hkl
     rw[bM,hvd] at h9
     show _=_
     omega
    have hb3:(v':Int)*1000000000+gr (dig x.natAbs) k<=9223372036854775808:=by
     have h1:=NT (l:=dig x.natAbs) k
     rw[aT,kH hkl,bM,hvd] at h1
     have:=HR.out
     omega
    have e0:IntKind.i64.wrap (gr (dig x.natAbs) k:Int)=(gr (dig x.natAbs) k:Int):=tN (by omega) (by omega)
    have e1:IntKind.i64.wrap (-(v':Int)*1000000000)=-(v':Int)*1000000000:=tN (by omega) (by omega)
    have e2:IntKind.i64.wrap (-(v':Int)*1000000000-(gr (dig x.natAbs) k:Int))=-(v':Int)*1000000000-(gr (dig x.natAbs) k:Int):=tN (by omega) (by omega)
    clear hvd
    go_wp2_with fail
    go_round
    case rel=>exact⟨k,_,_,rfl,by omega,rfl,rfl,by rw[hdx];simp only[sg,Dq,if_false,xg];exact HV.out.symm⟩
    case measure=>simp[intOf]
   ·have hdx:decide (x<0)=false:=je hneg
    obtain rfl:g1=false:=by have:=hf1.out;rw[this];exact hdx
    obtain rfl:z=(v':Int):=by rw[hz,hdx];simp[sg]
    clear hz
    have HV:Hid ((val ((dig x.natAbs).drop k):Int)=((v':Int))*1000000000+(gr (dig x.natAbs) k:Int)):=by
     have h9:=kH hkl
     rw[bM,hvd] at h9
     show _=_
     omega
    have hb3:(v':Int)*1000000000+gr (dig x.natAbs) k<=9223372036854775807:=by
     have h1:=NT (l:=dig x.natAbs) k
     rw[aT,kH hkl,bM,hvd] at h1
     have:=HR.out
     omega
    have e0:IntKind.i64.wrap (gr (dig x.natAbs) k:Int)=(gr (dig x.natAbs) k:Int):=tN (by omega) (by omega)
    have e1:IntKind.i64.wrap ((v':Int)*1000000000)=(v':Int)*1000000000:=tN (by omega) (by omega)
    have e2:IntKind.i64.wrap ((v':Int)*1000000000+(gr (dig x.natAbs) k:Int))=(v':Int)*1000000000+(gr (dig x.natAbs) k:Int):=tN (by omega) (by omega)
    clear hvd
    go_wp2_with fail
    go_round
    case rel=>exact⟨k,_,_,rfl,by omega,rfl,rfl,by rw[hdx];simp only[sg,Dq,if_false,xg];exact HV.out.symm⟩
    case measure=>simp[intOf]
theorem a3Q (v:Value) (x:Int) (w:World) (hv:Raw w v x) (hl:isz x<=999999999) :
  Calls Tryz.prog 223 #[v] w fun e W'=>e=.returned (.tuple #[.int .i64 (aK x),.bool (bH x)])/\Below w.heap.size w W':=by
 by_cases h1:x < -9223372036854775808
 ·exact a3R v x w hv hl h1
 by_cases h2:9223372036854775807<x
 ·exact a2s v x w hv hl h2
 ·exact a7H v x w hv hl ⟨by omega,by omega⟩
set_option maxHeartbeats 1000000
theorem c1z:aH Tryz.prog 282 a2Z:=(WE fun v x w h1=>YL v x w h1)
noncomputable def LZ:Lib:=(((((((LCa
 ).add 175 cIZ (a2X fun x w h0 h1=>b0I x w h0 h1)
 ).add 213 (cZ2 fun x y=>((Int.gcd x y:Nat):Int)) AA
 ).add 177 (cZ2 fun x y=>x*y) oU
 ).add 97 (cZ1 fun x=>-x) uN
 ).add 179 (cZI Int.sign) oV
 ).add 282 a2Z (WE fun v x w h1=>YL v x w h1)
 ).add 229 cDiv zY
noncomputable def LZb:Lib:=((((LZ
 ).add 183 (cNew 1000000000 14) IQ
 ).add 147 b5N a5b
 ).add 172 (cQ1 s4 (fun x=>-x)) IL
 ).add 176 (cZ2 fun x y=>x+y) SE
section
open Go Go.RowKit Go.Lib
set_option maxHeartbeats 4000000
abbrev KP:Value:=.agg #[.bool false,.slice none 0 0,.bool false,.slice none 0 0]
theorem a6Y:∃ i,Tryz.prog.info? 47=some i/\i.size=4/\i.bytes<=64/\i.zero=some KP:=by
 have h:(Tryz.prog.info? 47).map (fun i=>(i.size,decide (i.bytes<=64),i.zero))=some (4,true,some KP):=by kernel_rfl
 obtain⟨i,h1,h2⟩:=ig.1 h
 simp only[au,gy] at h2
 exact⟨i,h1,h2.1,h2.2.1,h2.2.2⟩
theorem a9q (n:Nat) (w:World) (h0:0<n) (hn:n<=1000000000):Calls Tryz.prog 151 #[.slice none 0 0,.int .i64 n] w fun e w'=>∃ c,n<=c/\c<=maxLen/\e=.returned (.slice (some ⟨w.heap.size,0,none⟩) 0 c)/\w'=w.drew.alloc (.cells (#[]++Builtin.zeroCells KP.cells n++Builtin.zeroCells KP.cells (c-n)) 47):=by
 obtain⟨i,hi,hs,hb,hz⟩:=a6Y
 have hn1:n*i.bytes<=n*64:=vk _ hb
 have hrz:∀ ty,(Builtin.append_ #[39,3] ty #[.slice none 0 0,.int .i64 (n:Nat)]).run Tryz.prog w=.ok (.slice (some ⟨w.heap.size,0,none⟩) (0+n) (grownCap w (0+n) 0 47)) (w.drew.alloc (.cells (#[]++Builtin.zeroCells KP.cells n++Builtin.zeroCells KP.cells (grownCap w (0+n) 0 47-(0+n))) 47)):=fun ty =>
  run_append_grow_zeros w 39 3 ty 47 i KP .i64 .i64 (by kernel_rfl) (by kernel_rfl) hi hz none 0 0 [] (run_firstCells_none w.drew _ 0 0 0) n h0 (by omega) (by omega) (by omega) (by omega) (growslice_fits (by omega) (by rw[ny];omega))
 have hG:=grownCap_ge w (0+n) 0 47
 have hG2:=grownCap_le_maxLen w (0+n) 0 47 (by unfold maxLen;omega)
 obtain⟨G,hg⟩:∃ G,G=grownCap w (0+n) 0 47:=⟨_,rfl⟩
 rw[<-hg] at hrz hG hG2
 simp only[ny] at hrz hG
 have hG63:G<=9223372036854775807:=by unfold maxLen at hG2;omega
 have h1:¬ ((n:Int)<0):=by omega
 have h4:(n:Int) > 0:=by omega
 clear hg hn1 hi hz hs hb
 go_enter Tryz.func151,Tryz.ntmps151
 go_wp2_with (at_builtin;refine Lib.wpList_append_run _ rfl _ _ _ _ rfl _ _ rfl rfl _ _ (hrz _) ?_)
 go_ret
 exact⟨G,hG,hG2,rfl,rfl⟩
theorem a6S (w:World):Calls Tryz.prog 151 #[.slice none 0 0,.int .i64 0] w fun e w'=>e=.returned (.slice none 0 0)/\w'=w:=by
 go_enter Tryz.func151,Tryz.ntmps151
 go_wp2
 go_ret
 exact⟨rfl,rfl⟩
abbrev LKr:LK:=.row 47 tR
def b5M:lM:=.mk LKr [.nls tR,tI] (fun x=>(show Option (List aG) from x.1)=none/\0<=(show Int from x.2.1)/\(show Int from x.2.1)<=1000000000) (fun _=>([]:List aG))
theorem b5J (z:Array Value) (n:Nat):(Builtin.zeroCells z n).size=n*z.size:=by simp[Builtin.zeroCells]
theorem a6u:∀ u ∈ KP.cells.toList,bV u=true:=by
 intro u hu
 have hu:u ∈ [Value.bool false,.slice none 0 0,.bool false,.slice none 0 0]:=hu
 simp only[jw,Dw,or_false] at hu
 rcases hu with rfl|rfl|rfl|rfl<;>rfl
theorem a9p:NOk Tryz.prog 151 b5M:=by
 intro F w vs y hF hvs hp
 obtain⟨v,vs',rfl,h1,u,vs'',rfl,h2,h3⟩:=hvs
 have h3:vs''=[]:=h3
 subst h3
 obtain⟨p1,p2,p3⟩:=hp
 have hv:v=.slice none 0 0:=by
  obtain⟨cs,rfl,hr⟩:=h1
  rcases hr with⟨_,rfl⟩|⟨ys,b,o,c,ds,e,_⟩
  ·rfl
  ·rw[show y.1=(none:Option (List aG)) from p1] at e;cases e
 subst hv
 obtain⟨n,hn⟩:=jv p2
 have hu:u=.int .i64 (n:Int):=by rw[SI h2];rw[show y.2.1=(n:Int) from hn]
 subst hu
 have hn9:n<=1000000000:=by rw[hn] at p3;omega
 let E:Env:=⟨fun _=>none,fun _=>undef,fun q=>F q\/w.heap.size<=q,fun _ _=>undef,fun _=>False,fun _=>undef⟩
 have hhas:∀ r j q,¬ E.has r j q:=fun r j q h=>by cases j<;>cases h
 have hM:Mem E (aS []) w w:=⟨⟨rfl,rfl,rfl,aj _,fun _ _ _=>rfl⟩,fun r=>rfl,fun r j r' j' b e=>(hhas r j b e).elim,fun r j b e=>(hhas r j b e).elim,fun q hq=>hq.elim (fun h=>h.elim) .inr,fun r i _=>rfl,fun r k e=>(by cases e),fun b o n h=>h⟩
 have fin:∀ (w':World) (b:Option Nat) (s:Value),Below w.heap.size w w'->(b=none\/b=some w.heap.size)->b=bI s->w'.ownsRow 0 47 4 s 0 []->CAv bV w' s->∃ v E9 ρ q v0,Ending.returned s=.returned v/\Mem E9 ρ w w'/\(∀ q,¬ E9.pI q)/\ρ q=LKr.res ([]:List aG) v0/\v=E9.sl q:=fun w' b s hb hbs hbl ho hc=>by
  have hsl:(E.put 0 b s).sl 0=s:=by show bG E.sl 0 s 0=s;exact aF _ _ _
  obtain⟨m1,m2⟩:=hM.turn (w':=w') 0 (kP.below hb _) b s (.row 47 tR [] 0)
   ⟨by rw[hsl];show bG E.blk 0 _ 0=_;rw[aF];exact hbl,rfl,[],by rw[hsl];exact ho,rfl,by rw[hsl];exact⟨hc,a2a _⟩⟩ (hbs.elim .inl (fun h=>.inr (.inr h))) rfl (fun k e=>by cases e) (fun h=>h.elim) (fun h=>h.elim) (fun v h=>h.elim) (fun v h=>h.elim) (fun v h=>h.elim)
  exact⟨s,_,_,0,0,rfl,m1,fun q h=>h,aF _ _ _,hsl.symm⟩
 by_cases h0:n=0
 ·subst h0
  refine(a6S w).mono ?_
  rintro e w' ⟨rfl,rfl⟩
  obtain⟨v,E9,ρ,q,v0,h⟩:=fin w' none (.slice none 0 0) (dh _ _) (.inl rfl) rfl (Az _ _ _ _) (fun g hg=>by cases hg)
  exact⟨v,E9,ρ,q,v0,h⟩
 ·refine(a9q n w (by omega) hn9).mono ?_
  rintro e w' ⟨c,c1,c2,rfl,rfl⟩
  have hcell:(w.drew.alloc (.cells (#[]++Builtin.zeroCells KP.cells n++Builtin.zeroCells KP.cells (c-n)) 47)).heap[w.heap.size]?=some (.cells (#[]++Builtin.zeroCells KP.cells n++Builtin.zeroCells KP.cells (c-n)) 47 (0,0)):=Cc w.drew (.cells (#[]++Builtin.zeroCells KP.cells n++Builtin.zeroCells KP.cells (c-n)) 47)
  obtain⟨v,E9,ρ,q,v0,h⟩:=fin _ (some w.heap.size) (.slice (some ⟨w.heap.size,0,none⟩) 0 c) ((dh _ _).drew.alloc (aj _) _) (.inr rfl) rfl ⟨rfl,.inr ⟨w.heap.size,c,_,rfl,qm _,hcell,qm _,c2,by
    simp only[Array.size_append,b5J,Array.size_empty]
    show 0+n*4+(c-n)*4=c*4
    omega,by simp⟩⟩ (fun g hg i x hx=>by
    cases hg
    have hx:=(xu _ w.heap.size i _ _ _ hcell).symm.trans hx
    have hx2:=Array.mem_of_getElem? hx
    simp only[Array.mem_append] at hx2
    rcases hx2 with(hx2|hx2)|hx2
    ·exact absurd hx2 (by simp)
    ·exact yS a6u _ x (Ef.2 hx2)
    ·exact yS a6u _ x (Ef.2 hx2))
  exact⟨v,E9,ρ,q,v0,h⟩
end
def nzQ (q:aG):Bool:=decide (q.x≠0)
def smQ (q:aG):Prop:=q.n<=1/\q.m<=1/\(q.ok=true->rsz q.x<=1)
def okQ (q:aG):Prop:=q.ok=true/\rsz q.x<=1
def rV (f:MR):Prop:=f.length<=4/\∀ r ∈ f,r.length<=4/\∀ q ∈ r,smQ q
theorem b1I (x:Rat):(sgn x.num != 0)=decide (x≠0):=by
 by_cases h:x=0
 ·subst h;rfl
 ·rw[jf h,bne_iff_ne]
  exact c1l fun e=>h (Ec.mp e)
theorem uY (x:Rat):(sgn x.num=0)↔x=0:=⟨fun h=>Ec.mp (vg.1 h),fun h=>by rw[h];rfl⟩
theorem OO {α:Type} {K:Nat}:∀ {x:List (List α)},(∀ r ∈ x,r.length<=K)->x.flatten.length<=K*x.length
 | [],_=>by simp
 | r::x,h=>by
  have h1:=h r (jd ..)
  have h2:=OO fun s hs=>h s (iy _ hs)
  rw[List.flatten_cons,dn,List.length_cons,Nat.mul_succ]
  omega
theorem LG {α:Type} {x:List (List α)} {i:Nat} (hi:i<x.length):(x.take (i+1)).flatten=(x.take i).flatten++x.getD i []:=by
 rw[Ci,List.flatten_append,bf,bn hi];simp
noncomputable def c6i:Ctr:=⟨[tR],[tB],fun x=>okQ x.1,fun x=>(nzQ x.1,())⟩
theorem a6o:aH Tryz.prog 168 c6i:=by
 refine aI (nil0.ad vS) ⟨[],[],[]⟩ Tryz.func168 rfl (by decide) (fun x=>[]) (fun x hp=>?_)
 obtain⟨q,u⟩:=x
 change aG at q
 refine aO ((aG.ok q=true/\rsz (aG.x q)<=1000000000/\True)/\True/\(sgn (Rat.num (aG.x q)) != 0)=nzQ q/\True) (by kernel_rfl) ?_
 try simp only[zP0]
 try dsimp only[aB,asT,aA,aC,Ty.den,Lf.den] at *
 try simp only[zP1]
 try simp only[zP2]
 exact⟨⟨hp.1,ak hp.2 (by omega)⟩,b1I _⟩
noncomputable def c2s:Ctr:=⟨[.list tR,.clo 168 .unit],[tI],fun x=>(show List (aG) from x.1).length<=1000000/\∀ q ∈ (show List (aG) from x.1),okQ q,fun x=>(oC nzQ (show List (aG) from x.1),())⟩
theorem a9W:aH Tryz.prog 211 c2s:=by
 refine aI (nil0.ad a6o) ⟨[],[],[]⟩ Tryz.func211 rfl (by decide) (fun x=>[.inv {k:Nat // k<=(show List (aG) from x.1).length/\((show List (aG) from x.1).take k).any nzQ=false} (fun k=>[(8,.val tI (k.1:Int))]) (fun k=>[]) (fun k=>(show List (aG) from x.1).length-k.1) ⟨0,by omega,rfl⟩ (fun _=>[])]) (fun x hp=>?_)
 obtain⟨x,c,u⟩:=x
 change List (aG) at x
 change Unit at c
 refine aO ((asT Int 0=0/\True)/\∀ (i:{ k:Nat // k<=List.length x/\List.any (List.take k x) nzQ=false }),asT Bool true=true/\ifB (decide (aB (aA i)<aB x.length)) ((0<=aB (aA i)/\aB (aA i)<aB x.length/\okQ (List.getD x (aB (aA i)).toNat bF)/\True)/\ifB (nzQ (List.getD x (aB (aA i)).toNat bF)) (True/\aB (aA i)=oC nzQ x/\True) (∃ (i':{ k:Nat // k<=List.length x/\List.any (List.take k x) nzQ=false }),List.length x-aA i'<List.length x-aA i/\IntKind.wrap IntKind.i64 (aB (aA i)+1)=aB (aA i')/\True)) (True/\-1=oC nzQ x/\True)) (by kernel_rfl) ?_
 try simp only[zP0]
 try dsimp only[aB,asT,aA,aC,Ty.den,Lf.den] at *
 try simp only[zP1]
 try simp only[zP2]
 have hp:x.length<=1000000/\∀ q ∈ x,okQ q:=hp
 obtain⟨hl,hb⟩:=hp
 refine fun i=>⟨fun h1=>⟨(by first|exact⟨by omega,h1,cZ hb (by omega)⟩|exact⟨by omega,h1⟩),fun h2=>?_,fun h2=>⟨⟨i.1+1,by omega,?_⟩,by simp only;omega,?_⟩⟩,fun h1=>?_⟩
 ·exact(wQ (d:=bF) (by omega) i.2.2 (by first|exact h2|rw[h2];rfl)).symm
 ·rw[uD (d:=bF) (by omega),i.2.2,h2];rfl
 ·rw[aJ (by omega) (by omega)];rfl
 ·have h3:=i.2.2
  rw[jc (by omega)] at h3
  exact(CV h3).symm
noncomputable def c2b:Ctr:=⟨[.list tR,.clo 168 .unit],[tB],fun x=>(show List (aG) from x.1).length<=1000000/\∀ q ∈ (show List (aG) from x.1),okQ q,fun x=>((show List (aG) from x.1).any nzQ,())⟩
theorem a8I:aH Tryz.prog 123 c2b:=by
 refine aI ((nil0.ad a6o).ad a9W) ⟨[],[],[]⟩ Tryz.func123 rfl (by decide) (fun x=>[]) (fun x hp=>?_)
 obtain⟨x,c,u⟩:=x
 change List (aG) at x
 change Unit at c
 refine aO (((List.length x<=1000000/\∀ (q:aG),q ∈ x->okQ q)/\True)/\True/\decide (oC nzQ x ≥ 0)=List.any x nzQ/\True) (by kernel_rfl) ?_
 exact⟨⟨hp,trivial⟩,trivial,wR _ _,trivial⟩
noncomputable def c2e:Ctr:=⟨[.list (.list tR)],[.list tR],fun x=>(show MR from x.1).length<=1000/\∀ r ∈ (show MR from x.1),r.length<=1000,fun x=>((show MR from x.1).flatten,())⟩
theorem a1d:aH Tryz.prog 63 c2e:=by
 refine aI (nil0.an a9p) ⟨[],[],[]⟩ Tryz.func63 rfl (by decide) (fun x=>[.inv {k:Nat // k<=(show MR from x.1).length} (fun k=>[(11,.val tI (k.1:Int)),(3,.val tI (((show MR from x.1).take k.1).flatten.length:Int))]) (fun k=>[]) (fun k=>(show MR from x.1).length-k.1) ⟨0,by omega⟩ (fun _=>[]),
  .inv {k:Nat // k<=(show MR from x.1).length} (fun k=>[(27,.val tI (k.1:Int)),(6,.own 24 0),(24,.any)]) (fun k=>[(24,.row 47 tR (((show MR from x.1).take k.1).flatten) 0)]) (fun k=>(show MR from x.1).length-k.1) ⟨0,by omega⟩ (fun _=>[])]) (fun x hp=>?_)
 obtain⟨x,u⟩:=x
 change List (List aG) at x
 refine aO ((asT Int 0=0/\0=aB (List.flatten (List.take 0 x)).length/\True)/\∀ (i:{ k:Nat // k<=List.length x }),let A₀:=(List.flatten (List.take (aA i) x)).length;let A₁:=(aB A₀+aB (List.getD x (aB (aA i)).toNat (aC aG)).length);asT Bool true=true/\ifB (decide (aB (aA i)<aB x.length)) ((0<=aB (aA i)/\aB (aA i)<aB x.length/\True)/\ifB (decide (IntKind.wrap IntKind.i64 A₁<0)) False (∃ (i':{ k:Nat // k<=List.length x }),List.length x-aA i'<List.length x-aA i/\IntKind.wrap IntKind.i64 (aB (aA i)+1)=aB (aA i')/\IntKind.wrap IntKind.i64 A₁=aB (List.flatten (List.take (aA i') x)).length/\True)) (((asT (Option (List aG)) none=none/\0<=aB A₀/\aB A₀<=1000000000)/\True)/\(asT Int 0=0/\asT (List aG) (aC aG)=aC aG/\True)/\∀ (i:{ k:Nat // k<=List.length x }),let A₂:=(List.take (aA i) x);asT Bool true=true/\ifB (decide (aB (aA i)<aB x.length)) ((0<=aB (aA i)/\aB (aA i)<aB x.length/\True)/\(List.length (List.flatten A₂)+List.length (List.getD x (aB (aA i)).toNat (aC aG))<=1000000000/\True)/\∃ (i':{ k:Nat // k<=List.length x }),List.length x-aA i'<List.length x-aA i/\IntKind.wrap IntKind.i64 (aB (aA i)+1)=aB (aA i')/\List.flatten A₂++List.getD x (aB (aA i)).toNat (aC aG)=List.flatten (List.take (aA i') x)/\True) (True/\List.flatten A₂=List.flatten x/\True))) (by kernel_rfl) ?_
 try simp only[zP0]
 try dsimp only[aB,asT,aA,aC,Ty.den,Lf.den] at *
 try simp only[zP1]
 try simp only[zP2]
 obtain⟨hl,hr⟩:x.length<=1000/\∀ r ∈ x,r.length<=1000:=hp
 have hf:∀ k,(x.take k).flatten.length<=1000000:=fun k=>by
  have h1:=OO (K:=1000) (x:=x.take k) fun r h=>hr r (Bv h)
  have h2:(x.take k).length<=1000:=by rw[ji];omega
  omega
 have hg:∀ k,(x.getD k []).length<=1000:=fun k=>by
  by_cases h:k<x.length
  ·exact cZ hr h
  ·rw[bf,qw (by omega)];simp
 refine⟨rfl,fun i=>⟨fun h1=>?_,fun h1=>⟨⟨by omega,by have:=hf i.1;omega⟩,fun j=>⟨fun h2=>⟨⟨by omega,h2⟩,by have:=hf j.1;have:=hg j.1;omega,⟨j.1+1,by omega⟩,by simp only;omega,by rw[aJ (by omega) (by omega)];rfl,(LG (by omega)).symm⟩,fun h2=>by rw[jc (by omega)]⟩⟩⟩⟩
 have e1:=hf i.1
 have e2:=hg i.1
 rw[aJ (n:=((x.take i.1).flatten.length:Int)+((x.getD i.1 []).length:Int)) (by omega) (by omega)]
 refine⟨⟨by omega,h1⟩,fun h=>by omega,fun h=>⟨⟨i.1+1,by omega⟩,by simp only;omega,by rw[aJ (by omega) (by omega)];rfl,?_⟩⟩
 show _=(((x.take (i.1+1)).flatten.length:Nat):Int)
 rw[LG (by omega),dn];omega
def rW (f:MR):Bool:=(decide (f.length=3)&&decide (kC f=0)&&decide (wdM f=3))&&f.flatten.any nzQ
def OG (r:LR):Bool:=decide (r.length=3)&&r.all (fun q=>q.ok)
def KT (r:LR):Bool:=r.all (fun q=>decide (q.x=0))
theorem rC {r:LR}:OG r=true↔r.length=3/\∀ q ∈ r,q.ok=true:=by
 unfold OG
 rw[ay,gy,qg]
theorem c2M {f:MR} (h:f.length=3):(kC f=0/\wdM f=3)↔f.all OG=true:=by
 have h0:f.getD 0 [] ∈ f:=by rw[bf,bn (by omega)];exact Am _
 constructor
 ·rintro⟨hc,hw⟩
  unfold kC at hc
  split at hc
  ·next hh =>
   refine qg.mpr fun r hr=>?_
   have:=Dn.mp hh.2.2.2.2 r hr
   unfold badR at this
   rw[hw] at this
   rw[rC]
   simpa using this
  ·cases hc
 ·intro hf
  have hr:∀ r ∈ f,r.length=3/\∀ q ∈ r,q.ok=true:=fun r hr=>rC.mp (qg.mp hf r hr)
  have hw:wdM f=3:=(hr _ h0).1
  refine⟨?_,hw⟩
  unfold kC
  rw[iw]
  refine⟨by omega,by omega,by omega,by omega,Dn.mpr fun r h=>?_⟩
  unfold badR
  have:=hr r h
  rw[hw]
  simpa using this
theorem a2S (f:MR):f.flatten.any nzQ=!f.all KT:=by
 rw[Bool.eq_iff_iff]
 unfold KT nzQ
 simp
theorem DY (f:MR):rW f=(decide (f.length=3)&&f.all OG&&!f.all KT):=by
 unfold rW
 rw[a2S]
 by_cases h:f.length=3
 ·have e:(decide (kC f=0)&&decide (wdM f=3))=f.all OG:=by
   rw[Bool.eq_iff_iff,<-c2M h,ay,gy,gy]
  rw[jf h,Bool.true_and,Bool.true_and,e]
 ·rw[je h];rfl
theorem rV.short {f:MR} (h:rV f):pV f:=⟨by have:=h.1;omega,fun r hr=>⟨by have:=(h.2 r hr).1;omega,fun q hq=>⟨by have:=((h.2 r hr).2 q hq).1;omega,by have:=((h.2 r hr).2 q hq).2.1;omega⟩⟩⟩
noncomputable def b6W:Ctr:=⟨[tMR],[tB],fun x=>rV x.1,fun x=>(rW x.1,())⟩
theorem a6p:aH Tryz.prog 84 b6W:=by
 refine aI (((nil0.ad qL).ad a1d).ad a8I) ⟨[],[],[]⟩ Tryz.func84 rfl (by decide) (fun x=>[]) (fun x hp=>?_)
 obtain⟨f,u⟩:=x
 change List (List aG) at f
 refine aO (let A₁:=((aB f.length != 3)==false);let A₂:=(bif aB f.length != 3 then true else kC f != 0);let A₀:=(A₂==false);let aN:=(A₀=true->A₀=true/\True);((A₁=true->A₁=true/\pV f/\True)/\(A₁=true->A₁=true/\True)/\((aB f.length != 3)=false->A₁=true)/\(A₀=true->A₀=true/\asT Int 0<=0/\0<aB f.length/\True)/\aN/\aN/\aN/\(A₂=false->A₀=true)/\True)/\ifB (bif bif aB f.length != 3 then true else kC f != 0 then true else aB (List.getD f 0 (aC aG)).length != 3) (True/\false=rW f/\True) (((List.length f<=1000/\∀ (r:List aG),r ∈ f->List.length r<=1000)/\(List.length (List.flatten f)<=1000000/\∀ (q:aG),q ∈ List.flatten f->okQ q)/\True)/\True/\List.any (List.flatten f) nzQ=rW f/\True)) (by kernel_rfl) ?_
 try simp only[zP0]
 try dsimp only[aB,asT,aA,aC,Ty.den,Lf.den] at *
 try simp only[zP1]
 try simp only[zP2]
 have hp:rV f:=hp
 have h4:=hp.1
 refine⟨⟨fun h=>⟨h,hp.short⟩,fun h=>⟨h,by omega,by omega⟩⟩,fun h=>?_,fun h=>⟨⟨⟨by omega,fun r hr=>by have:=(hp.2 r hr).1;omega⟩,?_,fun q hq=>?_⟩,?_⟩⟩
 ·have e:(decide (f.length=3)&&decide (kC f=0)&&decide (wdM f=3))=false:=by
   rcases h with(h|h)|h
   ·rw[je (show ¬ f.length=3 by omega)];rfl
   ·rw[je h];simp
   ·rw[je (show ¬ wdM f=3 by unfold wdM;omega)];simp
  unfold rW
  rw[e];rfl
 ·have:=OO (K:=4) (x:=f) fun r hr=>(hp.2 r hr).1
  omega
 ·obtain⟨r,hr,hq⟩:=Ej.mp hq
  have h2:=(c2M (f:=f) (by omega)).mp ⟨h.1.2,by unfold wdM;omega⟩
  have h3:=(rC.mp (qg.mp h2 r hr)).2 q hq
  exact⟨h3,((hp.2 r hr).2 q hq).2.2 h3⟩
 ·unfold rW
  rw[jf (show f.length=3 by omega),jf h.1.2,jf (show wdM f=3 by unfold wdM;omega)];rfl
theorem ZI {α:Type} {p:α->Bool} {xs:List α} {i:Nat} {d:α} (hi:i<xs.length):(xs.take (i+1)).all p=((xs.take i).all p&&p (xs.getD i d)):=by
 rw[Ci,List.all_append,bf,bn hi]
 simp
theorem gV {α:Type} {xs:List α} {i:Nat} {d:α} (hi:i<xs.length):xs.getD i d ∈ xs:=by
 rw[bf,bn hi];exact Am hi
theorem a2K {f:MR} {i:Nat} (hi:i<f.length) (h:OG (f.getD i [])=false):rW f=false:=by
 rw[DY,show f.all OG=false from List.all_eq_false.mpr ⟨_,gV hi,by rw[h];decide⟩];simp
theorem a4c (x:Rat):(sgn x.num==0)=decide (x=0):=by
 by_cases h:x=0
 ·subst h;rfl
 ·rw[je h]
  exact uo.mpr fun e=>h ((uY x).mp e)
noncomputable def c5o:Ctr:=⟨[tMR],[tB],fun x=>rV x.1,fun x=>(rW x.1,())⟩
theorem a5c:aH Tryz.prog 38 c5o:=by
 refine aI ((nil0.ad KD).ad uX) ⟨[7],[],[]⟩ Tryz.func38 rfl (by decide) (fun x=>[.inv {k:Nat // k<=(show MR from x.1).length/\((show MR from x.1).take k).all OG=true} (fun k=>[(10,.val tI (k.1:Int)),(3,.val tB (((show MR from x.1).take k.1).all KT))]) (fun k=>[]) (fun k=>(show MR from x.1).length-k.1) ⟨0,by omega,rfl⟩ (fun k=>[
  .inv {c:Nat // c<=((show MR from x.1).getD k.1 []).length/\(((show MR from x.1).getD k.1 []).take c).all (fun q=>q.ok)=true} (fun c=>[(19,.val tI (c.1:Int)),(3,.val tB (((show MR from x.1).take k.1).all KT&&(((show MR from x.1).getD k.1 []).take c.1).all (fun q=>decide (q.x=0))))]) (fun c=>[]) (fun c=>((show MR from x.1).getD k.1 []).length-c.1) ⟨0,by omega,rfl⟩ (fun _=>[])])]) (fun x hp=>?_)
 obtain⟨f,u⟩:=x
 change List (List aG) at f
 refine aO (let A₀:=(aB f.length==3);let A₁:=(True/\false=rW f/\True);(asT Int 0=0/\true=List.all (List.take 0 f) KT/\True)/\∀ (i:{ k:Nat // k<=List.length f/\List.all (List.take k f) OG=true }),let A₂:=(List.getD f (aA i) (aC aG));let aN:=(List.getD f (aB (aA i)).toNat (aC aG));let aU:=(List.take (aA i) f);asT Bool true=true/\ifB (decide (aB (aA i)<aB f.length)) ((0<=aB (aA i)/\aB (aA i)<aB f.length/\True)/\ifB (aB aN.length != 3) A₁ ((asT Int 0=0/\List.all aU KT=(List.all aU KT&&List.all (List.take 0 A₂) fun(q:aG)=>decide (aG.x q=0))/\True)/\∀ (i_1:{ c:Nat // c<=List.length A₂/\(List.all (List.take c A₂) fun(q:aG)=>aG.ok q)=true }),let aX:=(List.all aU KT&&List.all (List.take (aA i_1) A₂) fun(q:aG)=>decide (aG.x q=0));let bJ:=(List.getD aN (aB (aA i_1)).toNat bF);asT Bool true=true/\ifB (decide (aB (aA i_1)<aB aN.length)) ((0<=aB (aA i_1)/\aB (aA i_1)<aB aN.length/\True)/\((aG.n bJ<=999999999/\aG.m bJ<=999999999)/\True)/\ifB (!aG.ok bJ) A₁ ((((aX==true)=true->(aX==true)=true/\aG.ok bJ=true/\rsz (aG.x bJ)<=190000000/\True)/\((aX==true)=true->(aX==true)=true/\True)/\(aX=true->(aX==true)=true)/\True)/\∃ (i':{ c:Nat // c<=List.length A₂/\(List.all (List.take c A₂) fun(q:aG)=>aG.ok q)=true }),List.length A₂-aA i'<List.length A₂-aA i_1/\IntKind.wrap IntKind.i64 (aB (aA i_1)+1)=aB (aA i')/\(bif List.all aU KT&&List.all (List.take (aA i_1) A₂) fun(q:aG)=>decide (aG.x q=0) then sgn (Rat.num (aG.x bJ))==0 else false)=(List.all aU KT&&List.all (List.take (aA i') A₂) fun(q:aG)=>decide (aG.x q=0))/\True)) (∃ (i':{ k:Nat // k<=List.length f/\List.all (List.take k f) OG=true }),List.length f-aA i'<List.length f-aA i/\IntKind.wrap IntKind.i64 (aB (aA i)+1)=aB (aA i')/\aX=List.all (List.take (aA i') f) KT/\True))) ((((A₀==true)=true->(A₀==true)=true/\True)/\(A₀=true->(A₀==true)=true)/\True)/\True/\(bif aB f.length==3 then !List.all aU KT else false)=rW f/\True)) (by kernel_rfl) ?_
 try simp only[zP0]
 try dsimp only[aB,asT,aA,aC,Ty.den,Lf.den] at *
 try simp only[zP1]
 try simp only[zP2]
 have hp:rV f:=hp
 have h4:=hp.1
 refine⟨rfl,fun i=>⟨fun h1=>?_,fun h1=>?_⟩⟩
 ·have hi:i.1<f.length:=by omega
  have hr:f.getD i.1 [] ∈ f:=gV hi
  have hr4:=(hp.2 _ hr).1
  refine⟨⟨by omega,h1⟩,fun h=>(a2K hi ?_).symm,fun h=>⟨by simp,fun c=>⟨fun h2=>?_,fun h2=>⟨⟨i.1+1,by omega,?_⟩,by simp only;omega,by rw[aJ (by omega) (by omega)];rfl,?_⟩⟩⟩⟩
  ·unfold OG
   rw[je (by omega)];rfl
  ·have hc:c.1<(f.getD i.1 []).length:=by omega
   have hq:(f.getD i.1 []).getD c.1 bF ∈ f.getD i.1 []:=gV hc
   have hs:=(hp.2 _ hr).2 _ hq
   refine⟨⟨by omega,h2⟩,⟨by have:=hs.1;omega,by have:=hs.2.1;omega⟩,fun h3=>(a2K hi ?_).symm,fun h3=>⟨fun h4=>⟨h4,h3,by have:=hs.2.2 h3;omega⟩,⟨c.1+1,by omega,?_⟩,by simp only;omega,by rw[aJ (by omega) (by omega)];rfl,?_⟩⟩
   ·cases e:OG (f.getD i.1 [])
    ·rfl
    ·have:=(rC.mp e).2 _ hq
     rw[h3] at this;cases this
   ·rw[ZI (d:=bF) hc,c.2.2,h3];rfl
   ·show _=(_&&(List.take (c.1+1) (f.getD i.1 [])).all _)
    rw[ZI (d:=bF) hc,a4c,Bool.and_assoc]
  ·have hc:=c.2.2
   rw[jc (by omega)] at hc
   rw[ZI (d:=[]) hi,i.2.2]
   exact(Bool.true_and _).trans (rC.mpr ⟨by omega,fun q hq=>qg.mp hc q hq⟩)
  ·show _=(List.take (i.1+1) f).all KT
   rw[ZI (d:=[]) hi,jc (l:=f.getD i.1 []) (by omega)];rfl
 ·have h3:=i.2.2
  rw[jc (by omega)] at h3
  rw[jc (by omega),DY,h3,Bool.and_true]
  by_cases h:f.length=3
  ·rw[jf h,h];rfl
  ·rw[je h,show (((f.length:Nat):Int)==3)=false from uo.mpr (by omega)]
abbrev ML:Type:=List (List (List aG))
theorem a8A (a:MR):kC a=0\/kC a=1:=by unfold kC;split<;>simp
def KX (l:ML):Int:=if l.any (fun a=>kC a != 0) then 1 else 0
noncomputable def c1X:Ctr:=⟨[.list tMR],[tI],fun x=>(show ML from x.1).length<=1000000/\∀ a ∈ (show ML from x.1),pV a,fun x=>(KX x.1,())⟩
theorem NQ:aH Tryz.prog 230 c1X:=by
 refine mG (nil0.ad qL) [] Tryz.func230 rfl (by decide) (fun x=>[.inv {k:Nat // k<=(show ML from x.1).length/\((show ML from x.1).take k).any (fun a=>kC a != 0)=false} (fun k=>[(8,.val tI (k.1:Int))]) (fun k=>[]) (fun k=>(show ML from x.1).length-k.1) ⟨0,by omega,rfl⟩ (fun _=>[])]) (fun x hp=>?_)
 obtain⟨x,u⟩:=x
 change List (List (List aG)) at x
 refine aO ((asT Int 0=0/\True)/\∀ (i:{ k:Nat // k<=List.length x/\(List.any (List.take k x) fun(a:List (List aG))=>kC a != 0)=false }),asT Bool true=true/\ifB (decide (aB (aA i)<aB x.length)) ((0<=aB (aA i)/\aB (aA i)<aB x.length/\True)/\(pV (List.getD x (aB (aA i)).toNat (aC (List aG)))/\True)/\ifB (kC (List.getD x (aB (aA i)).toNat (aC (List aG))) != 0) (True/\kC (List.getD x (aB (aA i)).toNat (aC (List aG)))=KX x/\True) (∃ (i':{ k:Nat // k<=List.length x/\(List.any (List.take k x) fun(a:List (List aG))=>kC a != 0)=false }),List.length x-aA i'<List.length x-aA i/\IntKind.wrap IntKind.i64 (aB (aA i)+1)=aB (aA i')/\True)) (True/\0=KX x/\True)) (by kernel_rfl) ?_
 obtain⟨hl,hb⟩:=hp
 dsimp only[aB,asT,aA,aC] at *
 simp only[Int.toNat_natCast,jS,gy,oz,Ee,Dk]
 refine fun i=>⟨fun h1=>⟨⟨by omega,h1⟩,cZ hb (by omega),fun h2=>?_,fun h2=>⟨⟨i.1+1,by omega,?_⟩,by simp only;omega,?_⟩⟩,fun h1=>?_⟩
 ·have hi:i.1<x.length:=by omega
  have h3:x.any (fun a=>kC a != 0)=true:=Bl.mpr ⟨x.getD i.1 [],by rw[bf,bn hi];exact Am hi,h2⟩
  unfold KX;rw[h3]
  rcases a8A (x.getD i.1 []) with h|h
  ·rw[h] at h2;exact absurd h2 (by decide)
  ·rw[h];rfl
 ·rw[uD (d:=[]) (by omega),i.2.2,h2];rfl
 ·rw[aJ (by omega) (by omega)];rfl
 ·have h3:=i.2.2
  rw[jc (by omega)] at h3
  unfold KX;rw[h3];rfl
abbrev MQ:Type:=List (List Rat)
abbrev ent (a:MQ) (i j:Nat):Rat:=(a.getD i []).getD j 0
def tab (R C:Nat) (f:Nat->Nat->Rat):MQ:=(List.range R).map fun i=>(List.range C).map fun j=>f i j
def dI (R C:Nat) (f:Nat->Nat->Rat):MR:=(List.range R).map fun i=>(List.range C).map fun j=>dM (f i j)
def isM (a:MQ) (R C:Nat):Prop:=a.length=R/\(∀ r ∈ a,r.length=C)/\1<=R/\R<=64/\1<=C/\C<=64
theorem lK (R C:Nat) (f:Nat->Nat->Rat):(dI R C f).length=R:=by simp[dI]
theorem b0v {α:Type} (X:List (List α)) (Z:List α) {k:Nat} (hk:k<X.length):List.map (fun i=>(X++[Z]).getD i []) ((List.range X.length).set k X.length)=X.set k Z:=by
 apply Ei
 ·simp
 ·intro i h1 h2
  have hi:i<X.length:=by simpa using h2
  rw[List.getElem_map,List.getElem_set,List.getElem_set]
  split
  ·simp
  ·rw[List.getElem_range,bf,zq hi,bn hi];rfl
theorem b3W (n k:Nat):((List.range n).set k n).Nodup:=by
 refine List.nodup_iff_pairwise_ne.mpr (List.pairwise_iff_getElem.mpr fun i j hi hj h=>?_)
 have h1:i<n:=by simpa using hi
 have h2:j<n:=by simpa using hj
 rw[List.getElem_set,List.getElem_set]
 split<;>split<;>simp<;>omega
theorem b0w {α:Type} {H:List (List α)} {k R:Nat} (hH:H.length=k) (hk:k<R) (Z:List α):(H++List.replicate (R-k) []).set k Z=H++[Z]++List.replicate (R-k-1) []:=by
 obtain⟨d,rfl⟩:∃ d,R=k+d+1:=⟨R-k-1,by omega⟩
 subst hH
 rw[show H.length+d+1-H.length=d+1 by omega,show d+1-1=d by omega,List.set_append_right _ _ (aj _),Nat.sub_self,List.replicate_succ,List.set_cons_zero]
 simp
theorem a5s {α:Type} {H T:List (List α)} {k:Nat} (hH:H.length=k) (Z:List α):rowAt (H++[Z]++T) k=Z:=by
 subst hH;unfold rowAt;simp
theorem b0y {α:Type} {H T:List (List α)} {k:Nat} (hH:H.length=k) (Z Y:List α):(H++[Z]++T).set k Y=H++[Y]++T:=by
 subst hH;simp
theorem b0x {α:Type} (g:Nat->α) (z:α) {q C:Nat} (h:q<C):(List.map g (List.range q)++List.replicate (C-q) z).set q (g q)=List.map g (List.range (q+1))++List.replicate (C-(q+1)) z:=by
 obtain⟨d,rfl⟩:∃ d,C=q+d+1:=⟨C-q-1,by omega⟩
 rw[show q+d+1-q=d+1 by omega,show q+d+1-(q+1)=d by omega,List.set_append_right _ _ (by simp),oh]
 simp[List.replicate_succ]
theorem a7P (k C:Nat) (f:Nat->Nat->Rat):dI (k+1) C f=dI k C f++[List.map (fun j=>dM (f k j)) (List.range C)]:=by unfold dI;rw[oh];simp
theorem iT {α:Type} {p:α->Prop}:∀ {xs:List α},iR p xs↔∀ x ∈ xs,p x
 | []=>by simp[iR]
 | x::xs=>by simp[iR,iT (xs:=xs)]
theorem KH (R C:Nat) (f:Nat->Nat->Rat):iR (fun x=>dH [iR (fun x=>dH [aG.ok x=true]) x]) (dI R C f):=by
 refine iT.mpr fun r hr=>⟨iT.mpr fun q hq=>⟨?_,trivial⟩,trivial⟩
 obtain⟨i,_,rfl⟩:=ni.mp hr
 obtain⟨j,_,rfl⟩:=ni.mp hq
 rfl
theorem UQ (R C:Nat) (f:Nat->Nat->Rat):List.map (fun xs=>List.map (fun x=>aG.x x) xs) (dI R C f)=tab R C f:=by
 unfold dI tab;simp[dM,Function.comp_def]
end Go.Proofs.YtbkocjmmbkifjaaGreat
