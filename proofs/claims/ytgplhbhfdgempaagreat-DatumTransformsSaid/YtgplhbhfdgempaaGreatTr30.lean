/-
  Lemmas for the theorem vtransforms_holds, part 30 of 39.
-/
import Derived.Test.YtgplhbhfdgempaaGreatTr29
namespace Go.Proofs.YtgplhbhfdgempaaGreat
open Go Go.RowKit
set_option maxRecDepth 100000
set_option maxHeartbeats 4000000
set_option linter.unusedSimpArgs false
set_option linter.unusedVariables false
theorem wrap_i64 {k:Nat} (h:k<=9223372036854775807):IntKind.i64.wrap (k:Int)=k:=by simp[IntKind.wrap,IntKind.bits,IntKind.signed];omega
theorem b1i {g1 g2:Bool} {x y:Int} (h1:g1=decide (x<0)) (h2:g2=decide (y<0)) {o:List Nat} (ho:val o=val (dig x.natAbs)*val (dig y.natAbs)):sg (g1 != g2) (val o)=x*y:=by
 rw[ho,aJ,aJ]
 have e1:=wH x
 have e2:=wH y
 rw[<-h1] at e1
 rw[<-h2] at e2
 generalize x.natAbs=k at *
 generalize y.natAbs=l at *
 subst e1
 subst e2
 cases g1<;>cases g2<;>simp[sg,Int.neg_mul,Int.mul_neg]
theorem a7V {g1 g2:Bool} {x y:Int} (h1:g1=decide (x<0)) (h2:g2=decide (y<0)) {o:List Nat} (ho:val o=val (dig x.natAbs)*val (dig y.natAbs)):sg (!g1==g2) (val o)=x*y:=by
 exact b1i h1 h2 ho
theorem oD (v u:Value) (x y:Int) (w:World) (hv:Raw w v x) (hu:Raw w u y) (hl:isz x<=1000000000) (hl2:isz y<=1000000000) :
  Calls Tryz.prog 85 #[v,u] w (sO (x*y) w):=by
 obtain⟨i0,hi,hz0,hz1,hz2⟩:=Aj iZ
 obtain⟨b,p,n,c,rfl⟩:=hv.form
 obtain⟨d,o,m,e,rfl⟩:=hu.form
 have hlx:(dig x.natAbs).length<=1000000000:=hl
 have hly:(dig y.natAbs).length<=1000000000:=hl2
 have bZ:Below w.heap.size w w:=dn _ _
 go_enter Tryz.func85,Tryz.ntmps85
 go_wp2_with fail
 obtain⟨hA1,a0,b0,g0⟩:=bx3 w rfl [.bool b,.slice p n c] 62 [.bool d,.slice o m e] 62 [.bool false,.slice none 0 0] 62
 obtain⟨l0,t0,p0,w0⟩:=a0.drew.cf2
 obtain⟨a1,l1,i1,q1⟩:=b0.drew.cf2
 have tk1:True:=trivial
 have tk2:True:=trivial
 go_region_with
  (first
   | (((have:=tk1);clear tk1;have h0:=(hv.below hA1).drew;go_at_call 127;(with_reducible refine(iF _ (x) _ h0 (by omega)).mono ?_);rintro e w1 ⟨v1,rfl,hi1,hb1⟩;obtain⟨g1,p1,n1,c1,rfl⟩:=hi1.form;obtain rfl:n1=(dig x.natAbs).length:=hi1.len;have hf1:=bn (dR.flag hi1);have dW:=(b0.drew.to hb1);obtain⟨d1,m1,j1,s1⟩:=dW.cf2;have dP:=(a0.drew.to hb1);obtain⟨m0,u0,q0,y0⟩:=dP.cf2))
   | (((have:=tk2);clear tk2;have jZ:=((hu.below hA1).drew.below hb1);have j0:=jZ;go_at_call 127;(with_reducible refine(iF _ (y) _ j0 (by omega)).mono ?_);rintro e w2 ⟨v2,rfl,hi2,hb2⟩;obtain⟨g2,p2,n2,c2,rfl⟩:=hi2.form;obtain rfl:n2=(dig y.natAbs).length:=hi2.len;have hf2:=bn (dR.flag hi2);have dL:=(dP.to hb2);obtain⟨n0,v0,s0,z0⟩:=dL.cf2;have dM:=(dW.to hb2);obtain⟨e1,o1,k1,t1⟩:=dM.cf2)))
 all_goals
  have k0:=(hi1.below hb2)
  have lS:=((g0.drew.to hb1).to hb2)
  have d0:=(Below.tr (Below.tr (Below.tr bZ hA1).drew hb1) hb2)
  have hx:=(((k0.aI dL rfl rfl (.bool g1) (.slice p1 (dig x.natAbs).length c1)).aI (dM.aO (b:=w.heap.size) (by omega) (.bool g1) (.slice p1 (dig x.natAbs).length c1)) rfl rfl (.bool g2) (.slice p2 (dig y.natAbs).length c2))).rd
  have hy:=(((hi2.aI dL rfl rfl (.bool g1) (.slice p1 (dig x.natAbs).length c1)).aI (dM.aO (b:=w.heap.size) (by omega) (.bool g1) (.slice p1 (dig x.natAbs).length c1)) rfl rfl (.bool g2) (.slice p2 (dig y.natAbs).length c2))).rd
  have qx:=((dL.store2 (.bool g1) (.slice p1 (dig x.natAbs).length c1)).aO (b:=w.heap.size+1) (by omega) (.bool g2) (.slice p2 (dig y.natAbs).length c2))
  have qy:=((dM.aO (b:=w.heap.size) (by omega) (.bool g1) (.slice p1 (dig x.natAbs).length c1)).store2 (.bool g2) (.slice p2 (dig y.natAbs).length c2))
  have qr:=((lS.aO (b:=w.heap.size) (by omega) (.bool g1) (.slice p1 (dig x.natAbs).length c1)).aO (b:=w.heap.size+1) (by omega) (.bool g2) (.slice p2 (dig y.natAbs).length c2))
  have hBB:=(Below.aI (Below.aI d0 (b:=w.heap.size) (by omega) (.bool g1) (.slice p1 (dig x.natAbs).length c1)) (b:=w.heap.size+1) (by omega) (.bool g2) (.slice p2 (dig y.natAbs).length c2))
  generalize ((((w2.setCell ⟨w.heap.size,0,none⟩ (.bool g1)).setCell ⟨w.heap.size,1,none⟩ (.slice p1 (dig x.natAbs).length c1)).setCell ⟨w.heap.size+1,0,none⟩ (.bool g2)).setCell ⟨w.heap.size+1,1,none⟩ (.slice p2 (dig y.natAbs).length c2))=W at *
  have hlow1:=dB x.natAbs
  have hlow2:=dB y.natAbs
  have c2I:=bn (fun(o:List Nat) (h:val o=val (dig x.natAbs)*val (dig y.natAbs))=>a7V hf1.out hf2.out h)
  generalize dig x.natAbs=a at *
  generalize dig y.natAbs=bb at *
  have HA:=bn hlow1
  have HB:=bn hlow2
  clear hlow1 hlow2
  obtain⟨N,hN⟩:∃ N:Nat,(a.length:Int)+bb.length=N:=⟨a.length+bb.length,by omega⟩
  have hN':N=a.length+bb.length:=by omega
  have HN:=bn hN'
  have nn1:N<=2000000000:=by omega
  have nn2:a.length+bb.length<=N:=by omega
  clear hN'
  have qx1:=qx.c1
  have qy1:=qy.c1
  go_wp2_with (at_make;refine Dx _ rfl _ _ 60 rfl W.heap.size 133 i0 (.int .u32 0) 1 jo hi hz0 hz1 _ _ _ _ N rfl rfl (by omega) (by omega) (by rw[hz2];omega) (by unfold maxLen;omega) (aj _) ?_)
  intro w3 hown hgrow
  rw[kE] at hown
  have hB3:Below W.heap.size W w3:=(dn _ _).grown hgrow (aj _) (fun k e=>by cases e)
  clear hgrow hN qx1 qy1
  go_wp2_with fail
  go_loopw [6,7,8,9,22,23,24,25,26,27,28,29,30,31,32,33,34,35,36,37,38,39,40,41,42,43,44,45,46,47,48,49,50,51,52,53,54,55,56,57,58,59,60,61,62,63,64,65,66,67,68,69,70,71,72,73,74,75,76,77] (fun i _ _ _ _ _ _ _ _ _ _ _ _ _ _ _ _ _ _ _ _ _ _ _ _ _ _ _ _ _ _ _ _ _ _ _ _ _ _ _ _ _ _ _ _ _ _ _ _ _ _ _ _ _ _ _ _ _ _ _ wr=>∃ (k:Nat) (o:List Nat),k<=a.length/\i=.int .i64 (k:Nat)/\nT a bb o N k/\wr.ownsRow W.heap.size 133 1 (.slice (some ⟨W.heap.size,0,none⟩) N N) N (cells32 o)/\Below W.heap.size W wr) (fun i _ _ _ _ _ _ _ _ _ _ _ _ _ _ _ _ _ _ _ _ _ _ _ _ _ _ _ _ _ _ _ _ _ _ _ _ _ _ _ _ _ _ _ _ _ _ _ _ _ _ _ _ _ _ _ _ _ _ _ _=>a.length-(intOf i).toNat)
  case atStart=>exact⟨0,_,by omega,rfl,nT.start _ _ _,hown,hB3⟩
  case round =>
   obtain⟨k,o0,hk,rfl,hI,hO,hB⟩:=hrel
   have qx':=qx.to hB
   have qx1:=qx'.c1
   by_cases hlt:k<a.length
   ·have ga:gr a k<=999999999:=iJ HA.out k
    go_wp2_with fail
    obtain⟨wo,rfl⟩:∃ wo:World,wo=wr:=⟨_,rfl⟩
    go_loopw [7,8,9,29,30,31,32,33,34,35,36,37,38,39,40,41,42,43,44,45,46,47,48,49,50,51,52,53,54,55,56,57,58,59,60,61,62,63,64,65,66,67,68] (fun cc i _ _ _ _ _ _ _ _ _ _ _ _ _ _ _ _ _ _ _ _ _ _ _ _ _ _ _ _ _ _ _ _ _ _ _ _ _ _ _ _ _ wr=>∃ (j e:Nat) (o:List Nat),j<=bb.length/\i=.int .i64 (j:Nat)/\cc=.int .u64 (e:Nat)/\nD o0 bb o N k (gr a k) j e/\wr.ownsRow W.heap.size 133 1 (.slice (some ⟨W.heap.size,0,none⟩) N N) N (cells32 o)/\Below W.heap.size W wr) (fun _ i _ _ _ _ _ _ _ _ _ _ _ _ _ _ _ _ _ _ _ _ _ _ _ _ _ _ _ _ _ _ _ _ _ _ _ _ _ _ _ _ _ _=>bb.length-(intOf i).toNat)
    case atStart=>exact⟨0,0,o0,by omega,rfl,rfl,nD.start hI.len hI.low,hO,hB⟩
    case round =>
     obtain⟨j,e,o,hj,rfl,rfl,hI2,hO2,hB2⟩:=hrel
     clear qx' qx1
     have qx':=qx.to hB2
     have qy':=qy.to hB2
     have qx1:=qx'.c1
     have qy1:=qy'.c1
     have ge:e<=999999999:=by have:=hI2.car;omega
     by_cases a9L:j<bb.length
     ·have gb:gr bb j<=999999999:=iJ HB.out j
      have go:gr o (k+j)<=999999999:=iJ hI2.low (k+j)
      have hN:=hI2.step (by omega) (by omega) (by omega)
      obtain⟨ba,oa,rfl,hba,hca⟩:=hx.at (by intro e;subst e;simp at hlt)
      have hcell:wr.cell? ⟨ba,oa+k,none⟩=some (.int .u32 (gr a k:Nat)):=(hB2.cell (p:=⟨ba,oa+k,none⟩) hba).trans (hca k hlt)
      obtain⟨bc,ob,rfl,hbb,hcb⟩:=hy.at (by intro e;subst e;simp at a9L)
      have e0:wr.cell? ⟨bc,ob+j,none⟩=some (.int .u32 (gr bb j:Nat)):=(hB2.cell (p:=⟨bc,ob+j,none⟩) hbb).trans (hcb j a9L)
      have hcl:wr.cell? ⟨W.heap.size,k+j,none⟩=some (.int .u32 (gr o (k+j):Nat)):=by
       rw[hO2.cellAt (k+j) (by omega)];exact fO (by rw[hI2.len];omega)
      have hfr:=hO2.frozenAt (k+j)
      have hst:=fun v:Nat=>(gV o (k+j) v) ▸ hO2.stored (k+j) (.int .u32 (v:Nat))
      obtain⟨t,ht⟩:∃ t,k+j=t:=⟨_,rfl⟩
      rw[ht] at hcl hfr hst hN go
      obtain⟨x0,hx0⟩:∃ x0,gr o t=x0:=⟨_,rfl⟩
      obtain⟨pa,hpa⟩:∃ pa,gr a k=pa:=⟨_,rfl⟩
      obtain⟨pb,hpb⟩:∃ pb,gr bb j=pb:=⟨_,rfl⟩
      rw[hx0] at hcl hN go
      rw[hpa] at hcell ga
      rw[hpb] at e0 hN gb
      obtain⟨m,hm⟩:∃ m:Nat,(pa:Int)*pb=m:=⟨pa*pb,by simp⟩
      have hm2:m<=999999998000000001:=by
       have h1:pa*pb<=999999999*999999999:=uf ga gb
       have h2:((pa*pb:Nat):Int)=m:=by rw[<-hm];simp
       omega
      have hm3:pa*pb=m:=by
       have h2:((pa*pb:Nat):Int)=m:=by rw[<-hm];simp
       omega
      rw[hpa,hm3] at hN
      obtain⟨s2,hs2⟩:∃ s2:Nat,(x0:Int)+m+e=s2:=⟨x0+m+e,by simp⟩
      have c1H:x0+m+e=s2:=by omega
      rw[c1H] at hN
      obtain⟨r,hr⟩:∃ r,s2%1000000000=r:=⟨_,rfl⟩
      obtain⟨v,hv'⟩:∃ v,s2 / 1000000000=v:=⟨_,rfl⟩
      rw[hr,hv'] at hN
      have hr2:(s2:Int)%1000000000=r:=by omega
      have hv2:(s2:Int) / 1000000000=v:=by omega
      have hr3:r<=999999999:=by omega
      have hst:=hst r
      have hti:(k:Int)+j=t:=by omega
      have wt:IntKind.i64.wrap ((k:Int)+j)=t:=by rw[hti];exact wrap_i64 (by omega)
      have w1:IntKind.u64.wrap ((pa:Int)*pb)=m:=by rw[hm];exact wrap_u64 (by omega)
      have w2:IntKind.u64.wrap ((x0:Int)+m)=(x0:Int)+m:=by
       have:(x0:Int)+m=((x0+m:Nat):Int):=by simp
       rw[this];exact wrap_u64 (by omega)
      have w4:IntKind.u64.wrap ((x0:Int)+m+e)=s2:=by rw[hs2];exact wrap_u64 (by omega)
      have b1:(0:Int)<=t:=by omega
      have b2:(t:Int)<N:=by omega
      have b3:(k:Int)<a.length:=by omega
      have b4:(j:Int)<bb.length:=by omega
      have b5:(0:Int)<=k:=by omega
      have b6:(0:Int)<=j:=by omega
      have b7:t<N:=by omega
      have HN2:=bn hN
      have HST:=bn hst
      have HPA:=bn hpa
      clear hca hcb hN hst hx0 hpa hpb hm3 c1H hr hv' ht
      go_wp2_with fail
      go_quiet (fail)
      go_wp2_with fail
      go_roundw
      case rel=>exact⟨j+1,v,_,by omega,by go_num,rfl,by rw[HPA.out];exact HN2.out,by first|exact kM HST.out.1 (Below.qN (dn _ _) _)|(rw[<-gV];exact((kM hO2 (Below.qN (dn _ _) _)).stored t (.int .u32 (r:Nat))).1),by first|exact(Below.qN hB2 _).setCell (p:=⟨W.heap.size,t,none⟩) (aj _) _|exact Below.qN (hB2.setCell (p:=⟨W.heap.size,t,none⟩) (aj _) _) _⟩
      case measure=>simp[intOf];omega
     ·obtain rfl:j=bb.length:=by omega
      have hN:=nD.done hI hI2 (by omega)
      have hcl:wr.cell? ⟨W.heap.size,k+bb.length,none⟩=some (.int .u32 (gr o (k+bb.length):Nat)):=by
       rw[hO2.cellAt (k+bb.length) (by omega)];exact fO (by rw[hI2.len];omega)
      have hfr:=hO2.frozenAt (k+bb.length)
      go_wp2_with fail
      have hst:=hO2.stored (k+bb.length) (.int .u32 (e:Nat))
      rw[gV] at hst
      go_roundw
      case rel=>exact⟨k+1,_,by omega,by go_num,hN,hst.1,hB2.setCell (p:=⟨W.heap.size,k+bb.length,none⟩) (aj _) _⟩
      case measure=>simp[intOf];omega
   ·obtain rfl:k=a.length:=by omega
    have hvv:=hI.done HN.out
    have HXX:=bn (c2I.out o0 hvv)
    have hlow:=hI.low
    have hlen:=hI.len
    have hR:=Rd.dO (l:=o0) (by rw[hlen];exact hO)
    have HLN:=bn hlen
    have qy':=qy.to hB
    have qr':=qr.to hB
    have qx0:=qx'.c0
    have qy0:=qy'.c0
    clear hvv hlen
    go_wp2_with fail
    refine(iM _ _ o0 _ hR hlow (by rw[HLN.out];omega)).mono ?_
    rintro e2 w4 ⟨v2,rfl,hi4,hb4⟩
    obtain⟨g4,p4,n4,c4,rfl⟩:=hi4.form
    have q4:=qr'.to hb4
    have r0:=q4.c0
    have r1:=q4.c1
    have f0:=q4.f0
    have f1:=q4.f1
    have hB4:=Below.tr (Below.tr hBB hB) hb4
    go_wp2_with fail
    exact jh (v:=.agg #[.bool g4,.slice p4 n4 c4]) (by simp[results,Tryz.results85,go_sem,r0,r1]) rfl ⟨_,rfl,dR.aI (dX hi4 HXX.out) q4 rfl rfl _ _,Below.aI hB4 (by omega) _ _⟩
theorem a7d (a b:Bool) (x y:Int) (ha:a=decide (x<0)) (hb:b=decide (y<0)) (h:decide (x<0)=decide (y<0)):(a==b)=true:=by subst ha;subst hb;simpa using h
theorem RI (a b:Bool) (x y:Int) (ha:a=decide (x<0)) (hb:b=decide (y<0)) (h:decide (x<0)≠decide (y<0)):(a==b)=false:=by subst ha;subst hb;simpa using h
theorem a4z (v u:Value) (x y:Int) (w:World) (hv:Raw w v x) (hu:Raw w u y) (hl:isz x<=1000000000) (hl2:isz y<=1000000000) (h:decide (x<0)=decide (y<0)) :
  Calls Tryz.prog 84 #[v,u] w (sO (x+y) w):=by
 obtain⟨b,p,n,c,rfl⟩:=hv.form
 obtain⟨d,o,m,e,rfl⟩:=hu.form
 have HX:=bn h
 have hlx:(dig x.natAbs).length<=1000000000:=hl
 have hly:(dig y.natAbs).length<=1000000000:=hl2
 have b2Z:(dig x.natAbs).length<=2000000000:=by omega
 have hlp:(dig (val (dig x.natAbs)+val (dig y.natAbs))).length<=2000000001:=by
  have:=a6f x.natAbs y.natAbs
  rw[aJ,aJ]
  unfold nsz at this
  omega
 clear h
 have bZ:Below w.heap.size w w:=dn _ _
 go_enter Tryz.func84,Tryz.ntmps84
 go_wp2_with fail
 obtain⟨hA1,m0,n0,q0⟩:=bx3 w rfl [.bool b,.slice p n c] 62 [.bool d,.slice o m e] 62 [.bool false,.slice none 0 0] 62
 obtain⟨x0,e1,a1,h1⟩:=m0.drew.cf2
 obtain⟨j1,r1,m1,t1⟩:=n0.drew.cf2
 have tk1:True:=trivial
 have tk2:True:=trivial
 go_region_with
  (first
   | (((have:=tk1);clear tk1;have r0:=(hv.below hA1).drew;go_at_call 127;(with_reducible refine(iF _ (x) _ r0 (by omega)).mono ?_);rintro e w1 ⟨v1,rfl,hi1,hb1⟩;obtain⟨g1,p1,n1,c1,rfl⟩:=hi1.form;have hf1:=bn (dR.flag hi1);have dW:=(n0.drew.to hb1);obtain⟨k1,s1,o1,u1⟩:=dW.cf2;have dP:=(m0.drew.to hb1);obtain⟨y0,f1,b1,i1⟩:=dP.cf2))
   | (((have:=tk2);clear tk2;have jZ:=((hu.below hA1).drew.below hb1);have s0:=jZ;go_at_call 127;(with_reducible refine(iF _ (y) _ s0 (by omega)).mono ?_);rintro e w2 ⟨v2,rfl,hi2,hb2⟩;obtain⟨g2,p2,n2,c2,rfl⟩:=hi2.form;have hf2:=bn (dR.flag hi2);have hgg:=a7d g1 g2 x y hf1.out hf2.out HX.out;have dL:=(dP.to hb2);obtain⟨a0,c0,b0,d0⟩:=dL.cf2;have dM:=(dW.to hb2);obtain⟨e0,g0,f0,h0⟩:=dM.cf2)))
 all_goals
  obtain⟨z0,d1⟩:=((dL.store2 (.bool g1) (.slice p1 n1 c1)).aO (b:=w.heap.size+1) (by omega) (.bool g2) (.slice p2 n2 c2)).cs2
  obtain⟨l1,q1⟩:=((dM.aO (b:=w.heap.size) (by omega) (.bool g1) (.slice p1 n1 c1)).store2 (.bool g2) (.slice p2 n2 c2)).cs2
  go_wp2_with fail
  have lS:=((q0.drew.to hb1).to hb2)
  have a3F:=(aK.mk (((dL.store2 (.bool g1) (.slice p1 n1 c1)).aO (b:=w.heap.size+1) (by omega) (.bool g2) (.slice p2 n2 c2)).drew).bs2 (aK.mk (((dM.aO (b:=w.heap.size) (by omega) (.bool g1) (.slice p1 n1 c1)).store2 (.bool g2) (.slice p2 n2 c2)).drew).bs2 (BN.of (((lS.aO (b:=w.heap.size) (by omega) (.bool g1) (.slice p1 n1 c1)).aO (b:=w.heap.size+1) (by omega) (.bool g2) (.slice p2 n2 c2)).drew))))
  have o0:dQ (w.heap.size+1+1) (aK (BS2 w.heap.size (.bool g1) (.slice p1 n1 c1)) (aK (BS2 (w.heap.size+1) (.bool g2) (.slice p2 n2 c2)) (BN (w.heap.size+1+1)))):=(aK.hc (BS2.hc (by omega)) (aK.hc (BS2.hc (by omega)) BN.hc))
  have tk3:True:=trivial
  have tk4:True:=trivial
  go_region_held3 (aK (BS2 w.heap.size (.bool g1) (.slice p1 n1 c1)) (aK (BS2 (w.heap.size+1) (.bool g2) (.slice p2 n2 c2)) (BN (w.heap.size+1+1)))) (first|with_reducible exact a3F|with_reducible exact iC.go (aK.hk BS2.hk (aK.hk BS2.hk BN.hk)) (by assumption) (by assumption)|with_reducible exact dQ.go2 o0 (by assumption)|(simp;done))
   (first
    | (((have:=tk3);clear tk3;have w0:=(hi1.below hb2);have t0:=((w0.aI dL rfl rfl (.bool g1) (.slice p1 n1 c1)).aI (dM.aO (b:=w.heap.size) (by omega) (.bool g1) (.slice p1 n1 c1)) rfl rfl (.bool g2) (.slice p2 n2 c2)).drew.rd;have u0:=((hi2.aI dL rfl rfl (.bool g1) (.slice p1 n1 c1)).aI (dM.aO (b:=w.heap.size) (by omega) (.bool g1) (.slice p1 n1 c1)) rfl rfl (.bool g2) (.slice p2 n2 c2)).drew.rd;go_at_call 129;(with_reducible refine(a7Z _ _ _ _ _ t0 u0 (dB _) (dB _) hlx hly).mono ?_);rintro e w3 ⟨s3,rfl,hs3,hfr3,hb3⟩;obtain⟨p3,c3,rfl,VX,VY⟩:=hs3.form))
    | (((have:=tk4);clear tk4;have v0:=hs3;go_at_call 128;(with_reducible refine(iM _ _ _ _ v0 (dB _) hlp).mono ?_);rintro e w4 ⟨v4,rfl,hi4,hb4⟩;obtain⟨g4,p4,n4,c4,rfl⟩:=hi4.form;have oV:=((((lS.aO (b:=w.heap.size) (by omega) (.bool g1) (.slice p1 n1 c1)).aO (b:=w.heap.size+1) (by omega) (.bool g2) (.slice p2 n2 c2)).drew.to hb3).to hb4);obtain⟨i0,k0,j0,l0⟩:=oV.cf2)))
  have p0:=(Below.tr (Below.tr (Below.aI (Below.aI (Below.tr (Below.tr (Below.tr bZ hA1).drew hb1) hb2) (b:=w.heap.size) (by omega) (.bool g1) (.slice p1 n1 c1)) (b:=w.heap.size+1) (by omega) (.bool g2) (.slice p2 n2 c2)).drew hb3) hb4)
  go_wp2_with fail
  exact jh (v:=.agg #[.bool g4,.slice p4 n4 c4]) (by simp[results,Tryz.results84,go_sem,a0,c0,b0,d0,e0,g0,f0,h0,i0,k0,j0,l0]) rfl ⟨_,rfl,dX (hi4.aI oV rfl rfl (.bool g4) (.slice p4 n4 c4)) (a7R hf1.out hf2.out HX.out),(Below.aI p0 (b:=w.heap.size+1+1) (by omega) (.bool g4) (.slice p4 n4 c4))⟩
theorem a4x (v u:Value) (x y:Int) (w:World) (hv:Raw w v x) (hu:Raw w u y) (hl:isz x<=1000000000) (hl2:isz y<=1000000000) (h:decide (x<0)≠decide (y<0)) (h2:y.natAbs<=x.natAbs) :
  Calls Tryz.prog 84 #[v,u] w (sO (x+y) w):=by
 obtain⟨b,p,n,c,rfl⟩:=hv.form
 obtain⟨d,o,m,e,rfl⟩:=hu.form
 have HX:=bn h
 have hlx:(dig x.natAbs).length<=1000000000:=hl
 have hly:(dig y.natAbs).length<=1000000000:=hl2
 have b2Z:(dig x.natAbs).length<=2000000000:=by omega
 have HL:=bn h2
 have hvv:val (dig y.natAbs)<=val (dig x.natAbs):=by rw[aJ,aJ];omega
 have hll:(dig y.natAbs).length<=(dig x.natAbs).length:=aN (by omega)
 have hld:(dig (val (dig x.natAbs)-val (dig y.natAbs))).length<=2000000001:=by
  have:=aN (show val (dig x.natAbs)-val (dig y.natAbs)<=x.natAbs by rw[aJ,aJ];omega)
  omega
 obtain⟨cv,hcv⟩:∃ cv,dV (val (dig x.natAbs)) (val (dig y.natAbs))=cv:=⟨_,rfl⟩
 have HCV:=bn hcv
 rw[aJ,aJ] at hcv
 have hdc:decide (0<=cv)=true:=by
  have:0<=cv:=by
   rw[<-hcv];unfold dV
   rw[ig (by omega)];split<;>omega
  simpa using this
 have c1C:(dig x.natAbs).length<=1000000002:=by omega
 have c1E:(dig y.natAbs).length<=1000000002:=by omega
 clear h2 hcv
 clear h
 have bZ:Below w.heap.size w w:=dn _ _
 go_enter Tryz.func84,Tryz.ntmps84
 go_wp2_with fail
 obtain⟨hA1,m0,n0,r0⟩:=bx3 w rfl [.bool b,.slice p n c] 62 [.bool d,.slice o m e] 62 [.bool false,.slice none 0 0] 62
 obtain⟨b1,j1,f1,l1⟩:=m0.drew.cf2
 obtain⟨o1,x1,s1,z1⟩:=n0.drew.cf2
 have tk1:True:=trivial
 have tk2:True:=trivial
 go_region_with
  (first
   | (((have:=tk1);clear tk1;have s0:=(hv.below hA1).drew;go_at_call 127;(with_reducible refine(iF _ (x) _ s0 (by omega)).mono ?_);rintro e w1 ⟨v1,rfl,hi1,hb1⟩;obtain⟨g1,p1,n1,c1,rfl⟩:=hi1.form;have hf1:=bn (dR.flag hi1);have dW:=(n0.drew.to hb1);obtain⟨q1,y1,t1,a2⟩:=dW.cf2;have dP:=(m0.drew.to hb1);obtain⟨d1,k1,h1,m1⟩:=dP.cf2))
   | (((have:=tk2);clear tk2;have jZ:=((hu.below hA1).drew.below hb1);have t0:=jZ;go_at_call 127;(with_reducible refine(iF _ (y) _ t0 (by omega)).mono ?_);rintro e w2 ⟨v2,rfl,hi2,hb2⟩;obtain⟨g2,p2,n2,c2,rfl⟩:=hi2.form;have hf2:=bn (dR.flag hi2);have hgg:=RI g1 g2 x y hf1.out hf2.out HX.out;have dL:=(dP.to hb2);obtain⟨a0,c0,b0,d0⟩:=dL.cf2;have dM:=(dW.to hb2);obtain⟨e0,g0,f0,h0⟩:=dM.cf2)))
 all_goals
  obtain⟨e1,i1⟩:=((dL.store2 (.bool g1) (.slice p1 n1 c1)).aO (b:=w.heap.size+1) (by omega) (.bool g2) (.slice p2 n2 c2)).cs2
  obtain⟨r1,u1⟩:=((dM.aO (b:=w.heap.size) (by omega) (.bool g1) (.slice p1 n1 c1)).store2 (.bool g2) (.slice p2 n2 c2)).cs2
  go_wp2_with fail
  have o0:=(hi1.below hb2)
  have u0:=((o0.aI dL rfl rfl (.bool g1) (.slice p1 n1 c1)).aI (dM.aO (b:=w.heap.size) (by omega) (.bool g1) (.slice p1 n1 c1)) rfl rfl (.bool g2) (.slice p2 n2 c2)).rd
  have v0:=((hi2.aI dL rfl rfl (.bool g1) (.slice p1 n1 c1)).aI (dM.aO (b:=w.heap.size) (by omega) (.bool g1) (.slice p1 n1 c1)) rfl rfl (.bool g2) (.slice p2 n2 c2)).rd
  (with_reducible refine(uH _ _ _ _ _ u0 v0 (cZ _) (cZ _) b2Z).mono ?_)
  rw[HCV.out]
  rintro e w3 ⟨rfl,hb3⟩
  go_wp2_with fail
  have lH:=(((dL.store2 (.bool g1) (.slice p1 n1 c1)).aO (b:=w.heap.size+1) (by omega) (.bool g2) (.slice p2 n2 c2)).to hb3)
  have pJ:=(((dM.aO (b:=w.heap.size) (by omega) (.bool g1) (.slice p1 n1 c1)).store2 (.bool g2) (.slice p2 n2 c2)).to hb3)
  have KT:=(((((r0.drew.to hb1).to hb2).aO (b:=w.heap.size) (by omega) (.bool g1) (.slice p1 n1 c1)).aO (b:=w.heap.size+1) (by omega) (.bool g2) (.slice p2 n2 c2)).to hb3)
  have c2O:=(aK.mk (lH.drew).bs2 (aK.mk (pJ.drew).bs2 (BN.of (KT.drew))))
  have p0:dQ (w.heap.size+1+1) (aK (BS2 w.heap.size (.bool g1) (.slice p1 n1 c1)) (aK (BS2 (w.heap.size+1) (.bool g2) (.slice p2 n2 c2)) (BN (w.heap.size+1+1)))):=(aK.hc (BS2.hc (by omega)) (aK.hc (BS2.hc (by omega)) BN.hc))
  have tk3:True:=trivial
  have tk4:True:=trivial
  go_region_held3 (aK (BS2 w.heap.size (.bool g1) (.slice p1 n1 c1)) (aK (BS2 (w.heap.size+1) (.bool g2) (.slice p2 n2 c2)) (BN (w.heap.size+1+1)))) (first|with_reducible exact c2O|with_reducible exact iC.go (aK.hk BS2.hk (aK.hk BS2.hk BN.hk)) (by assumption) (by assumption)|with_reducible exact dQ.go2 p0 (by assumption)|(simp;done))
   (first
    | (((have:=tk3);clear tk3;have z0:=(((o0.aI dL rfl rfl (.bool g1) (.slice p1 n1 c1)).aI (dM.aO (b:=w.heap.size) (by omega) (.bool g1) (.slice p1 n1 c1)) rfl rfl (.bool g2) (.slice p2 n2 c2)).below hb3);have w0:=z0.drew.rd;have a1:=(((hi2.aI dL rfl rfl (.bool g1) (.slice p1 n1 c1)).aI (dM.aO (b:=w.heap.size) (by omega) (.bool g1) (.slice p1 n1 c1)) rfl rfl (.bool g2) (.slice p2 n2 c2)).below hb3);have x0:=a1.drew.rd;go_at_call 131;(with_reducible refine(zI _ _ _ _ _ w0 x0 (dB _) (dB _) c1C hll hvv).mono ?_);rintro e w4 ⟨s4,rfl,hs4,c3J,hb4⟩;obtain⟨p4,c4,rfl,a9K,a9N⟩:=hs4.form))
    | (((have:=tk4);clear tk4;have y0:=hs4;go_at_call 128;(with_reducible refine(iM _ _ _ _ y0 (dB _) hld).mono ?_);rintro e w5 ⟨v5,rfl,hi5,hb5⟩;obtain⟨g5,p5,n5,c5,rfl⟩:=hi5.form;have xX:=((KT.drew.to hb4).to hb5);obtain⟨i0,k0,j0,l0⟩:=xX.cf2)))
  have q0:=(Below.tr (Below.tr (Below.tr (Below.aI (Below.aI (Below.tr (Below.tr (Below.tr bZ hA1).drew hb1) hb2) (b:=w.heap.size) (by omega) (.bool g1) (.slice p1 n1 c1)) (b:=w.heap.size+1) (by omega) (.bool g2) (.slice p2 n2 c2)) hb3).drew hb4) hb5)
  go_wp2_with fail
  exact jh (v:=.agg #[.bool g5,.slice p5 n5 c5]) (by simp[results,Tryz.results84,go_sem,a0,c0,b0,d0,e0,g0,f0,h0,i0,k0,j0,l0]) rfl ⟨_,rfl,dX (hi5.aI xX rfl rfl (.bool g5) (.slice p5 n5 c5)) (a7Q hf1.out hf2.out HX.out HL.out),(Below.aI q0 (b:=w.heap.size+1+1) (by omega) (.bool g5) (.slice p5 n5 c5))⟩
theorem a2J (v u:Value) (x y:Int) (w:World) (hv:Raw w v x) (hu:Raw w u y) (hl:isz x<=1000000000) (hl2:isz y<=1000000000) (h:decide (x<0)≠decide (y<0)) (h2:x.natAbs<y.natAbs) :
  Calls Tryz.prog 84 #[v,u] w (sO (x+y) w):=by
 obtain⟨b,p,n,c,rfl⟩:=hv.form
 obtain⟨d,o,m,e,rfl⟩:=hu.form
 have HX:=bn h
 have hlx:(dig x.natAbs).length<=1000000000:=hl
 have hly:(dig y.natAbs).length<=1000000000:=hl2
 have b2Z:(dig x.natAbs).length<=2000000000:=by omega
 have HL:=bn h2
 have hvv:val (dig x.natAbs)<=val (dig y.natAbs):=by rw[aJ,aJ];omega
 have hll:(dig x.natAbs).length<=(dig y.natAbs).length:=aN (by omega)
 have hld:(dig (val (dig y.natAbs)-val (dig x.natAbs))).length<=2000000001:=by
  have:=aN (show val (dig y.natAbs)-val (dig x.natAbs)<=y.natAbs by rw[aJ,aJ];omega)
  omega
 obtain⟨cv,hcv⟩:∃ cv,dV (val (dig x.natAbs)) (val (dig y.natAbs))=cv:=⟨_,rfl⟩
 have HCV:=bn hcv
 rw[aJ,aJ] at hcv
 have hdc:decide (0<=cv)=false:=by
  have:¬ 0<=cv:=by
   rw[<-hcv];unfold dV
   rw[gy (by omega)];omega
  simpa using this
 have c1C:(dig x.natAbs).length<=1000000002:=by omega
 have c1E:(dig y.natAbs).length<=1000000002:=by omega
 clear h2 hcv
 clear h
 have bZ:Below w.heap.size w w:=dn _ _
 go_enter Tryz.func84,Tryz.ntmps84
 go_wp2_with fail
 obtain⟨hA1,m0,n0,r0⟩:=bx3 w rfl [.bool b,.slice p n c] 62 [.bool d,.slice o m e] 62 [.bool false,.slice none 0 0] 62
 obtain⟨b1,j1,f1,l1⟩:=m0.drew.cf2
 obtain⟨o1,x1,s1,z1⟩:=n0.drew.cf2
 have tk1:True:=trivial
 have tk2:True:=trivial
 go_region_with
  (first
   | (((have:=tk1);clear tk1;have s0:=(hv.below hA1).drew;go_at_call 127;(with_reducible refine(iF _ (x) _ s0 (by omega)).mono ?_);rintro e w1 ⟨v1,rfl,hi1,hb1⟩;obtain⟨g1,p1,n1,c1,rfl⟩:=hi1.form;have hf1:=bn (dR.flag hi1);have dW:=(n0.drew.to hb1);obtain⟨q1,y1,t1,a2⟩:=dW.cf2;have dP:=(m0.drew.to hb1);obtain⟨d1,k1,h1,m1⟩:=dP.cf2))
   | (((have:=tk2);clear tk2;have jZ:=((hu.below hA1).drew.below hb1);have t0:=jZ;go_at_call 127;(with_reducible refine(iF _ (y) _ t0 (by omega)).mono ?_);rintro e w2 ⟨v2,rfl,hi2,hb2⟩;obtain⟨g2,p2,n2,c2,rfl⟩:=hi2.form;have hf2:=bn (dR.flag hi2);have hgg:=RI g1 g2 x y hf1.out hf2.out HX.out;have dL:=(dP.to hb2);obtain⟨a0,c0,b0,d0⟩:=dL.cf2;have dM:=(dW.to hb2);obtain⟨e0,g0,f0,h0⟩:=dM.cf2)))
 all_goals
  obtain⟨e1,i1⟩:=((dL.store2 (.bool g1) (.slice p1 n1 c1)).aO (b:=w.heap.size+1) (by omega) (.bool g2) (.slice p2 n2 c2)).cs2
  obtain⟨r1,u1⟩:=((dM.aO (b:=w.heap.size) (by omega) (.bool g1) (.slice p1 n1 c1)).store2 (.bool g2) (.slice p2 n2 c2)).cs2
  go_wp2_with fail
  have o0:=(hi1.below hb2)
  have u0:=((o0.aI dL rfl rfl (.bool g1) (.slice p1 n1 c1)).aI (dM.aO (b:=w.heap.size) (by omega) (.bool g1) (.slice p1 n1 c1)) rfl rfl (.bool g2) (.slice p2 n2 c2)).rd
  have v0:=((hi2.aI dL rfl rfl (.bool g1) (.slice p1 n1 c1)).aI (dM.aO (b:=w.heap.size) (by omega) (.bool g1) (.slice p1 n1 c1)) rfl rfl (.bool g2) (.slice p2 n2 c2)).rd
  (with_reducible refine(uH _ _ _ _ _ u0 v0 (cZ _) (cZ _) b2Z).mono ?_)
  rw[HCV.out]
  rintro e w3 ⟨rfl,hb3⟩
  go_wp2_with fail
  have pJ:=(((dM.aO (b:=w.heap.size) (by omega) (.bool g1) (.slice p1 n1 c1)).store2 (.bool g2) (.slice p2 n2 c2)).to hb3)
  have lH:=(((dL.store2 (.bool g1) (.slice p1 n1 c1)).aO (b:=w.heap.size+1) (by omega) (.bool g2) (.slice p2 n2 c2)).to hb3)
  have KT:=(((((r0.drew.to hb1).to hb2).aO (b:=w.heap.size) (by omega) (.bool g1) (.slice p1 n1 c1)).aO (b:=w.heap.size+1) (by omega) (.bool g2) (.slice p2 n2 c2)).to hb3)
  have c2P:=(aK.mk (pJ.drew).bs2 (aK.mk (lH.drew).bs2 (BN.of (KT.drew))))
  have p0:dQ (w.heap.size+1+1) (aK (BS2 (w.heap.size+1) (.bool g2) (.slice p2 n2 c2)) (aK (BS2 w.heap.size (.bool g1) (.slice p1 n1 c1)) (BN (w.heap.size+1+1)))):=(aK.hc (BS2.hc (by omega)) (aK.hc (BS2.hc (by omega)) BN.hc))
  have tk3:True:=trivial
  have tk4:True:=trivial
  go_region_held3 (aK (BS2 (w.heap.size+1) (.bool g2) (.slice p2 n2 c2)) (aK (BS2 w.heap.size (.bool g1) (.slice p1 n1 c1)) (BN (w.heap.size+1+1)))) (first|with_reducible exact c2P|with_reducible exact iC.go (aK.hk BS2.hk (aK.hk BS2.hk BN.hk)) (by assumption) (by assumption)|with_reducible exact dQ.go2 p0 (by assumption)|(simp;done))
   (first
    | (((have:=tk3);clear tk3;have a1:=(((hi2.aI dL rfl rfl (.bool g1) (.slice p1 n1 c1)).aI (dM.aO (b:=w.heap.size) (by omega) (.bool g1) (.slice p1 n1 c1)) rfl rfl (.bool g2) (.slice p2 n2 c2)).below hb3);have w0:=a1.drew.rd;have z0:=(((o0.aI dL rfl rfl (.bool g1) (.slice p1 n1 c1)).aI (dM.aO (b:=w.heap.size) (by omega) (.bool g1) (.slice p1 n1 c1)) rfl rfl (.bool g2) (.slice p2 n2 c2)).below hb3);have x0:=z0.drew.rd;go_at_call 131;(with_reducible refine(zI _ _ _ _ _ w0 x0 (dB _) (dB _) c1E hll hvv).mono ?_);rintro e w4 ⟨s4,rfl,hs4,c3J,hb4⟩;obtain⟨p4,c4,rfl,a9K,a9N⟩:=hs4.form))
    | (((have:=tk4);clear tk4;have y0:=hs4;go_at_call 128;(with_reducible refine(iM _ _ _ _ y0 (dB _) hld).mono ?_);rintro e w5 ⟨v5,rfl,hi5,hb5⟩;obtain⟨g5,p5,n5,c5,rfl⟩:=hi5.form;have xX:=((KT.drew.to hb4).to hb5);obtain⟨i0,k0,j0,l0⟩:=xX.cf2)))
  have q0:=(Below.tr (Below.tr (Below.tr (Below.aI (Below.aI (Below.tr (Below.tr (Below.tr bZ hA1).drew hb1) hb2) (b:=w.heap.size) (by omega) (.bool g1) (.slice p1 n1 c1)) (b:=w.heap.size+1) (by omega) (.bool g2) (.slice p2 n2 c2)) hb3).drew hb4) hb5)
  go_wp2_with fail
  exact jh (v:=.agg #[.bool g5,.slice p5 n5 c5]) (by simp[results,Tryz.results84,go_sem,a0,c0,b0,d0,e0,g0,f0,h0,i0,k0,j0,l0]) rfl ⟨_,rfl,dX (hi5.aI xX rfl rfl (.bool g5) (.slice p5 n5 c5)) (a4y hf1.out hf2.out HX.out HL.out),(Below.aI q0 (b:=w.heap.size+1+1) (by omega) (.bool g5) (.slice p5 n5 c5))⟩
theorem a2I (v u:Value) (x y:Int) (w:World) (hv:Raw w v x) (hu:Raw w u y) (hl:isz x<=1000000000) (hl2:isz y<=1000000000) :
  Calls Tryz.prog 84 #[v,u] w (sO (x+y) w):=by
 by_cases h:decide (x<0)=decide (y<0)
 ·exact a4z v u x y w hv hu hl hl2 h
 ·by_cases h2:y.natAbs<=x.natAbs
  ·exact a4x v u x y w hv hu hl hl2 h h2
  ·exact a2J v u x y w hv hu hl hl2 h (by omega)
theorem DT (v u:Value) (x y:Int) (w:World) (hv:Raw w v x) (hu:Raw w u y) (hl:isz x<=1000000000) (hl2:isz y<=1000000000) :
  Calls Tryz.prog 155 #[v,u] w (sO (x-y) w):=by
 obtain⟨b,p,n,c,rfl⟩:=hv.form
 obtain⟨d,o,m,e,rfl⟩:=hu.form
 have hn:isz (-y)<=1000000000:=by rw[nJ];omega
 have bZ:Below w.heap.size w w:=dn _ _
 go_enter Tryz.func155,Tryz.ntmps155
 go_wp2_with fail
 obtain⟨hA1,h0,i0,e0⟩:=bx3 w rfl [.bool b,.slice p n c] 62 [.bool d,.slice o m e] 62 [.bool false,.slice none 0 0] 62
 have yG:=(aK.mk (h0.drew).bs2 (aK.mk (i0.drew).bs2 (BN.of (e0.drew))))
 have f0:dQ (w.heap.size+1+1) (aK (BS2 w.heap.size (.bool b) (.slice p n c)) (aK (BS2 (w.heap.size+1) (.bool d) (.slice o m e)) (BN (w.heap.size+1+1)))):=(aK.hc (BS2.hc (by omega)) (aK.hc (BS2.hc (by omega)) BN.hc))
 have tk1:True:=trivial
 have tk2:True:=trivial
 go_region_held3 (aK (BS2 w.heap.size (.bool b) (.slice p n c)) (aK (BS2 (w.heap.size+1) (.bool d) (.slice o m e)) (BN (w.heap.size+1+1)))) (first|with_reducible exact yG|with_reducible exact iC.go (aK.hk BS2.hk (aK.hk BS2.hk BN.hk)) (by assumption) (by assumption)|with_reducible exact dQ.go2 f0 (by assumption)|(simp;done))
  (first
   | (((have:=tk1);clear tk1;have j0:=(hu.below hA1).drew;go_at_call 96;(with_reducible refine(UN _ (y) _ j0 (by omega)).mono ?_);rintro e w1 ⟨v1,rfl,hi1,hb1⟩;obtain⟨g1,p1,n1,c1,rfl⟩:=hi1.form))
   | (((have:=tk2);clear tk2;have qZ:=((hv.below hA1).drew.below hb1);have k0:=qZ;have l0:=hi1.raw;go_at_call 84;(with_reducible refine(a2I _ _ (x) (-((y))) _ k0 l0 hl hn).mono ?_);rintro e w2 ⟨v2,rfl,hi2,hb2⟩;obtain⟨g2,p2,n2,c2,rfl⟩:=hi2.form;have lS:=((e0.drew.to hb1).to hb2);obtain⟨a0,c0,b0,d0⟩:=lS.cf2)))
 have g0:=(Below.tr (Below.tr (Below.tr bZ hA1).drew hb1) hb2)
 go_wp2_with fail
 exact jh (v:=.agg #[.bool g2,.slice p2 n2 c2]) (by simp[results,Tryz.results155,go_sem,a0,c0,b0,d0]) rfl ⟨_,rfl,dX (hi2.aI lS rfl rfl (.bool g2) (.slice p2 n2 c2)) (Int.sub_eq_add_neg).symm,(Below.aI g0 (b:=w.heap.size+1+1) (by omega) (.bool g2) (.slice p2 n2 c2))⟩
theorem b4i (x y:Int):sgn (x-y)=dV x y:=by
 unfold dV
 rcases Ae x y with h|h|h
 ·rw[gy h,KY (by omega)]
 ·subst h;simp[sgn]
 ·rw[ig (by omega),gy h,zL (by omega)]
theorem a0L (v u:Value) (x y:Int) (w:World) (hv:Raw w v x) (hu:Raw w u y) (hl:isz x<=999999999) (hl2:isz y<=999999999) :
  Calls Tryz.prog 122 #[v,u] w fun e w'=>e=.returned (.int .i64 (dV x y))/\Below w.heap.size w w':=by
 obtain⟨b,p,n,c,rfl⟩:=hv.form
 obtain⟨d,o,m,e,rfl⟩:=hu.form
 have hl3:isz x<=1000000000:=by omega
 have hl4:isz y<=1000000000:=by omega
 have hsb:isz (x-y)<=1000000000:=by have:=a0v x y;omega
 have bZ:Below w.heap.size w w:=dn _ _
 go_enter Tryz.func122,Tryz.ntmps122
 go_wp2_with fail
 obtain⟨hA1,e0,f0⟩:=bx2 w rfl [.bool b,.slice p n c] 62 [.bool d,.slice o m e] 62
 have b0:=(hv.below hA1)
 have c0:=(hu.below hA1)
 (with_reducible refine(DT _ _ (x) (y) _ b0 c0 hl3 hl4).mono ?_)
 rintro e w1 ⟨v1,rfl,hi1,hb1⟩
 obtain⟨g1,p1,n1,c1,rfl⟩:=hi1.form
 go_wp2_with fail
 have d0:=hi1.raw
 (with_reducible refine(rH _ ((x)-(y)) _ d0 hsb).mono ?_)
 rintro e w2 ⟨rfl,hb2⟩
 have a0:=(Below.tr (Below.tr (Below.tr bZ hA1) hb1) hb2)
 go_wp2_with fail
 go_ret
 exact⟨iR (b4i x y),a0⟩
end Go.Proofs.YtgplhbhfdgempaaGreat
